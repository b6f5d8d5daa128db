import Derived.Test.YtclffekkjfhpdaaGreatQAbsM
namespace Go.Proofs.YtclffekkjfhpdaaGreat
open Go.ChangeShapes Go.WideShapes Go.RowKit
set_option linter.unusedVariables false
set_option linter.unusedSimpArgs false
namespace Abs
section
variable {P:Program} {s:ASt} {d:Option Nat} {ty t xT yT:TypeId} {pos:String} {af:Array Edge} {g:Option (Nat×Bool)} {x y c:Operand} {id e sz bytes n:Nat} {el:Nat→List CV} {k k':IntKind} {α:Type} [Inhabited α] {f:α→List CV}
theorem zix {β:Type} {c us:List β} {A N:Nat} (h:A+us.length≤N) (hN:N≤c.length):(c.take A++us++c.drop (A+us.length)).take N=(c.take N).take A++us++(c.take N).drop (A+us.length):=by
 rw [List.take_append,List.take_of_length_le (by simp;omega),List.drop_take,List.take_take,Nat.min_eq_left (by omega:A≤N)]
 congr 2
 simp
 omega
theorem made_at {z:Array Value} (hz:0<z.size) (n i j:Nat) (hi:i<n) (hj:j<z.size):(madeCells z (n*z.size)).toList[i*z.size+j]?=z[j]?:=by
 have hlt:i*z.size+j<n*z.size:=by
  have:=Nat.mul_le_mul_right z.size (Nat.succ_le_of_lt hi)
  rw [Nat.succ_mul] at this
  omega
 have hm:(i*z.size+j)%z.size=j:=by rw [Nat.add_comm,Nat.add_mul_mod_self_right,Nat.mod_eq_of_lt hj]
 unfold madeCells
 simp [hlt,hm,hj]
theorem st_makes {z:Value} {zs:List Value} (id:Nat) (n c:Nat) (x0:α) (hid:look s.heap id=none) (hx:s.ev x=.one (.val (.int k (n:Int)))) (hy:s.ev y=.one (.val (.int k' (c:Int)))) (hnc:n≤c) (hc:c≤16000000) [kk:TSl P t e sz bytes] [kz:TZero P e z] (hz:z.cells=zs.toArray)
  (hf:∀A w,All2 (RepC A w) (f x0) zs) (hs:∀x,(f x).length=sz) (hby:bytes≤4096) (hc2:c*bytes≤140737488355328) (hd:dOk s d=true) :
  Ev P [] s ⟨d,.makeSlice t x y,ty,pos,af,g⟩ (· = (s.blk id (.row e sz (List.replicate n x0).length (lsEl f (List.replicate n x0)))).put d (.one (.own id))) :=
 fun U T w0 a w hv ok K Q hK=>by
  have E:=TSl.elem (P:=P) (t:=t) (e:=e) (sz:=sz) (bytes:=bytes)
  obtain ⟨i,z',hi,hz',hsize,hbytes,hzs⟩:=E.info
  have hpos:=E.pos
  have h6:z'=z:=by
   have h7:=kz.h
   rw [hi] at h7
   simp only [Option.bind_some] at h7
   rw [hz'] at h7
   injection h7
  subst h6
  have hbc:(i.bytes:Int)*(c:Int)≤281474976710656:=by
   rw [←Int.natCast_mul,hbytes,Nat.mul_comm]
   omega
  have hrun:=run_make (P:=P) w t e i z' E.slice hi hz' k k' (n:Int) (c:Int) (by omega) (by omega) hbc (by omega)
  simp only [Int.toNat_natCast] at hrun
  rw [hsize] at hrun
  unfold Oper.wp
  have hrun2:(execOp a.eval ⟨d,.makeSlice t x y,ty,pos,af,g⟩).run P w=.ok (.value (.slice (some ⟨w.heap.size,0,none⟩) n c)) (w.alloc (.cells (madeCells z'.cells (c*sz)) e)):=by
   simp only [execOp,ok.m.val hx,ok.m.val hy,Sem.run_bind,hrun,Result.andThen_ok,Sem.run_pure]
  rw [hrun2]
  have hu:∀g,blockOf (.slice (some ⟨w.heap.size,0,none⟩) n c)=some g→w.heap.size≤g:=fun g hg=>by simp [blockOf] at hg;omega
  have hmax:c≤maxLen:=maxLen_ge (by omega)
  have hcell:z'.cells.size=sz:=hzs
  refine hK _ _ _ _ rfl (ok.new (blk:=.row e sz (List.replicate n x0).length (lsEl f (List.replicate n x0))) (u:=.slice (some ⟨w.heap.size,0,none⟩) n c) hid (Fr.alloc _ _ _) hu ⟨(madeCells z'.cells (c*sz)).toList.take (n*sz),?_,fun i _=>hs _,fun i j cc hi hj=>?_⟩ ⟨⟨_,_,_,_,look_same _ _ _⟩,(upd_same _ _ _).symm,some ⟨w.heap.size,0,none⟩,n,c,rfl⟩ hd) fun j _ ⟨b,hb⟩=>upd_other fun e=>by subst e;rw [hid] at hb;cases hb
  ·rw [upd_same,List.length_replicate]
   have hle:n*sz≤c*sz:=Nat.mul_le_mul_right _ hnc
   refine ⟨by rw [List.length_take,Array.length_toList,size_madeCells];omega,.inr ⟨w.heap.size,c,_,rfl,Nat.zero_le _,heap_alloc_new w _,hnc,hmax,by rw [size_madeCells],rfl⟩⟩
  ·rw [List.length_replicate] at hi
   have h1:(List.replicate n x0).getD i default=x0:=by simp [List.getD,hi]
   unfold lsEl at hj
   rw [h1] at hj
   have hjs:j<sz:=by rw [←hs x0];exact (List.getElem?_eq_some_iff.1 hj).1
   obtain ⟨u,hu1,hu2⟩:=(hf (fun b=>U b∨mine s.heap hv b) w).get hj
   have hlt:i*sz+j<n*sz:=by
    have:=Nat.mul_le_mul_right sz (Nat.succ_le_of_lt hi)
    rw [Nat.succ_mul] at this
    omega
   have h2:(madeCells z'.cells (c*sz)).toList[i*sz+j]?=some u:=by
    have h3:=made_at (z:=z'.cells) (by omega) c i j (by omega) (by omega)
    rw [hcell] at h3
    rw [h3,hz]
    simpa using hu1
   refine ⟨u,by rw [List.getElem?_take,if_pos hlt];exact h2,?_⟩
   exact (hf _ _).get hj |>.elim fun u' h=>by
    have:u'=u:=Option.some.inj (h.1.symm.trans hu1)
    rw [←this];exact h.2
theorem zex {l:List α} {j o nn:Nat} {agg:Bool} {r:AV} {new:List CV} (y0:α) (hs:∀x,(f x).length=sz) (hx:s.ev x=.one (.rptr id sz j o)) (hb:look s.heap id=some (.row e sz l.length (lsEl f l))) (hj:j<l.length) (hy:s.ev y=r) (hc:r.cells=some new)
  (hf:All2 CLe (splice (f (l.getD j default)) o new) (f y0)) (hy0:(f y0).all CV.read=true) (hrd:new.all CV.read=true) [kk:TVar P t agg nn] (hn:Nat.beq new.length nn=true) (hle:Nat.ble (o+nn) sz=true) (hd:dOk s d=true) :
  Ev P [] s ⟨d,.store t x y,ty,pos,af,g⟩ (· = (s.blk id (.row e sz (l.set j y0).length (lsEl f (l.set j y0)))).put d (.one .any)) :=
 fun U T w0 a w hv ok K Q hK=>by
  have hn:=Nat.eq_of_beq_eq_true hn
  have hle:=Nat.le_of_ble_eq_true hle
  have hr:=ok.m.ev x
  rw [hx] at hr
  obtain ⟨_,b,n',c',h1,h2⟩:=hr
  obtain ⟨vs,h3,h4,h5⟩:=ok.m.hm.blk id _ hb
  have hry:=ok.m.ev y
  rw [hy] at hry
  obtain ⟨us,hus,h6⟩:=cells_rep hry hc
  have hul:us.length=nn:=by rw [←h6.length];exact hn
  have hrc:∀(q:Nat) (c:CV) (u:Value),new[q]?=some c→us[q]?=some u→RepC (fun b=>U b∨mine s.heap hv b) w c u:=fun q c u hq hu=>by
   obtain ⟨u',e1,e2⟩:=h6.get hq
   rw [hu] at e1
   injection e1 with e1
   subst e1
   exact RepT.read e2 (List.all_eq_true.1 hrd _ (List.mem_of_getElem? hq))
  have hone:∀u∈us,u.oneCell'=true:=fun u hu=>by
   obtain ⟨q,hq⟩:=List.mem_iff_getElem?.1 hu
   have hql:q<new.length:=by rw [hn,←hul];exact (List.getElem?_eq_some_iff.1 hq).1
   exact (hrc q _ u (List.getElem?_eq_getElem hql) hq).one
  have h3':=h3
  rw [h1] at h3'
  obtain ⟨hvl,h7⟩:=h3'
  rcases h7 with ⟨h8,_⟩|⟨g',cap,cur,h8,hg0,hg,hncap,hcm,hcs,htk⟩
  ·cases h8
  simp only [Value.slice.injEq,Option.some.injEq,Addr.mk.injEq,and_true] at h8
  obtain ⟨rfl,rfl,rfl⟩:=h8
  have hlsz:j*sz+sz≤l.length*sz:=by
   have:=Nat.mul_le_mul_right sz (Nat.succ_le_of_lt hj)
   rwa [Nat.succ_mul] at this
  have hcap:l.length*sz≤c'*sz:=Nat.mul_le_mul_right _ hncap
  have hst:=run_storeCells_at (P:=P) b (j*sz+o) e us 0 cur w hg (by omega) hone
  simp only [Nat.add_zero] at hst
  have hrun:(execOp a.eval ⟨d,.store t x y,ty,pos,af,g⟩).run P w=.ok .skip (w.setRow b (cur.toList.take (j*sz+o)++us++cur.toList.drop (j*sz+o+us.length)).toArray):=by
   have hsz:us.toArray.size=nn:=by simpa using hul
   simp [execOp,Instr.storeAt,h2,Instr.sureAddr,storeVar,hus,run_size (P:=P) (t:=t) (agg:=agg) (n:=nn),hul,hst]
  unfold Oper.wp
  rw [hrun]
  have hmine:blockOf (hv id)=some b:=by rw [h1];rfl
  have hf2:Fr (fun g=>blockOf (hv id)=some g) w (w.setRow b (cur.toList.take (j*sz+o)++us++cur.toList.drop (j*sz+o+us.length)).toArray):=(Fr.setRow w b _).mono fun g _ hg=>by rw [hg];exact hmine
  have hlen:(l.set j y0).length=l.length:=List.length_set
  have hvs:vs=cur.toList.take (l.length*sz):=htk.symm
  have hcl:cur.toList.length=c'*sz:=by simpa using hcs
  refine hK _ undef _ hv rfl ?_ fun _ _ _=>rfl
  have key:=ok.rerow (w':=w.setRow b (cur.toList.take (j*sz+o)++us++cur.toList.drop (j*sz+o+us.length)).toArray) (el':=lsEl f (l.set j y0)) (vs':=vs.take (j*sz+o)++us++vs.drop (j*sz+o+us.length)) (d:=d) (r:=.one .any) (v:=undef) hb hf2 ?_ (fun i _=>hs _) (fun i q c' hi hq=>?_) (fun _ _=>trivial) hd
  ·show Ok U T w0 (ASt.put { s with heap:=(id,some (.row e sz (l.set j y0).length (lsEl f (l.set j y0))))::s.heap } d (.one .any)) _ _ _
   rw [hlen]
   exact key
  ·rw [h1]
   refine ⟨by simp [hvl,hul];omega,.inr ⟨b,c',_,rfl,Nat.zero_le _,setRow_heap w b cur _ e _ hg,hncap,hcm,?_,?_⟩⟩
   ·simp [hul];omega
   ·rw [hvs]
    simp only [List.toList_toArray]
    exact zix (by omega) (by omega)
  ·have hkeep:∀{c:CV} {u:Value},RepC (fun b=>U b∨mine s.heap hv b) w c u→RepC (fun b=>U b∨mine s.heap hv b) (w.setRow b (cur.toList.take (j*sz+o)++us++cur.toList.drop (j*sz+o+us.length)).toArray) c u:=fun hr=>hr.keep hf2 (fun g hg=>.inr ⟨id,_,hb,hg⟩) fun _ _ h=>h
   rw [lsEl_set hj] at hq
   have hq':q<sz:=by
    have h9:=(List.getElem?_eq_some_iff.1 hq).1
    split at h9
    ·rwa [hs] at h9
    ·rwa [show lsEl f l i=f (l.getD i default) from rfl,hs] at h9
   by_cases hij:i=j
   ·subst hij
    rw [if_pos rfl] at hq
    have hsp:(splice (f (l.getD i default)) o new).length=(f y0).length:=hf.length
    have hql:q<(splice (f (l.getD i default)) o new).length:=by rw [hsp,hs];exact hq'
    obtain ⟨c1,e1,e2⟩:=hf.get (List.getElem?_eq_getElem hql)
    rw [hq] at e1
    injection e1 with e1
    subst e1
    have hread:c'.read=true:=List.all_eq_true.1 hy0 _ (List.mem_of_getElem? hq)
    have hget:∃u,(vs.take (i*sz+o)++us++vs.drop (i*sz+o+us.length))[i*sz+q]?=some u∧RepC (fun b=>U b∨mine s.heap hv b) w (splice (f (l.getD i default)) o new)[q] u:=by
     have hgq:(splice (f (l.getD i default)) o new)[q]?=some (splice (f (l.getD i default)) o new)[q]:=List.getElem?_eq_getElem hql
     generalize (splice (f (l.getD i default)) o new)[q]=cc at hgq
     unfold splice at hgq
     simp only [List.getElem?_append,List.length_append,List.length_take,List.getElem?_take,List.getElem?_drop,hs,hn] at hgq
     have m1:min o sz=o:=by omega
     rw [m1] at hgq
     simp only [List.getElem?_append,List.length_append,List.length_take,List.getElem?_take,List.getElem?_drop,hvl,hul]
     have m2:min (i*sz+o) (l.length*sz)=i*sz+o:=by omega
     rw [m2]
     by_cases q1:q<o
     ·rw [if_pos (by omega),if_pos (by omega),if_pos (by omega)] at hgq
      rw [if_pos (by omega),if_pos (by omega),if_pos (by omega)]
      exact h5 i q cc hj hgq
     ·by_cases q2:q<o+nn
      ·rw [if_pos (by omega),if_neg (by omega)] at hgq
       rw [if_pos (by omega),if_neg (by omega)]
       have e3:i*sz+q - (i*sz+o)=q - o:=by omega
       rw [e3]
       obtain ⟨u,e4,_⟩:=h6.get hgq
       exact ⟨u,e4,hrc _ _ _ hgq e4⟩
      ·rw [if_neg (by omega)] at hgq
       rw [if_neg (by omega)]
       have e3:i*sz+o+nn+(i*sz+q - (i*sz+o+nn))=i*sz+q:=by omega
       have e4:o+nn+(q - (o+nn))=q:=by omega
       rw [e3]
       rw [e4] at hgq
       exact h5 i q cc hj hgq
    obtain ⟨u,e4,e5⟩:=hget
    exact ⟨u,e4,hkeep (e2.repC e5 (by rintro rfl;cases hread))⟩
   ·rw [if_neg hij] at hq
    obtain ⟨u,e1,e2⟩:=h5 i q c' hi hq
    refine ⟨u,?_,hkeep e2⟩
    rw [←e1]
    simp only [List.getElem?_append,List.length_append,List.length_take,List.getElem?_take,List.getElem?_drop,hvl,hul]
    have m2:min (j*sz+o) (l.length*sz)=j*sz+o:=by omega
    rw [m2]
    rcases Nat.lt_or_gt_of_ne hij with h9|h9
    ·have h10:i*sz+sz≤j*sz:=by
      have:=Nat.mul_le_mul_right sz (Nat.succ_le_of_lt h9)
      rwa [Nat.succ_mul] at this
     rw [if_pos (by omega),if_pos (by omega),if_pos (by omega)]
    ·have h10:j*sz+sz≤i*sz:=by
      have:=Nat.mul_le_mul_right sz (Nat.succ_le_of_lt h9)
      rwa [Nat.succ_mul] at this
     rw [if_neg (by omega)]
     congr 1
     omega
theorem zeN {j o:Nat} (hx:s.ev x=.one (.rptr id sz j o)) (hd:dOk s d=true):Ev P [] s ⟨d,.nilCheck x,ty,pos,af,g⟩ (· = s.put d (.one (.rptr id sz j o))) :=
 ev_of_run hd fun U a w hv m=>by
  have hr:=m.ev x
  rw [hx] at hr
  obtain ⟨h0,b,n',c',h1,h2⟩:=hr
  refine ⟨a.eval x,w,?_,Fr.refl _ _,?_⟩
  ·simp [execOp,h2]
  ·exact ⟨h0,b,n',c',h1,h2⟩
theorem zhS {parts:List (Nat×Operand)} {vs:List AV} {L:Nat} {out:List CV} [kk:TSl P t e sz bytes] {z:Value} [kz:TZero P e z] {zs:List Value} (hx:parts.map (fun p=>s.ev p.2)=vs) (hz:z.cells=zs.toArray) (hone:zs.all (·.oneCell')=true)
  (ho:fillC (fun i=>some (i*sz,sz)) ((List.range (L*sz)).map fun i=>CV.val (zs.getD (i%zs.length) undef)) ((parts.map (·.1)).zip vs)=some out) (hrd:out.all CV.read=true) (hlen:out.length=L*sz) (hL:Nat.ble (L*sz) 16777216=true) (hel:∀i,i<L→(out.drop (i*sz)).take sz=el i) (hd:dOk s d=true) :
  Ev P [] s ⟨d,.buildSlice t L parts.toArray,ty,pos,af,g⟩ (· = s.put d (.one (.full L el))) :=
 ev_of_run hd fun U a w hv m=>by
  have E:=TSl.elem (P:=P) (t:=t) (e:=e) (sz:=sz) (bytes:=bytes)
  obtain ⟨vout,hrun,hvl,h2⟩:=lit_run (P:=P) (d:=d) (ty:=ty) (pos:=pos) (af:=af) (g:=g) (t:=t) (e:=e) (sz:=sz) (bytes:=bytes) hz hone (by rw [←ho,←hx,zgP]) hlen hL m
  have hL':=Nat.le_of_ble_eq_true hL
  refine ⟨_,_,hrun,Fr.alloc _ _ _,RepC.full L el _ ?_⟩
  have hLm:L≤maxLen:=by
   have h3:=Nat.le_mul_of_pos_right L E.pos
   unfold maxLen
   omega
  have hAlt:∀b,w.heap.size≤b→¬(U b∨mine s.heap hv b):=fun b hb h=>by
   rcases h with h|h
   ·have:=m.hm.ult b h;omega
   ·have:=m.hm.lt h;omega
  refine zgX (base:=w.heap.size) (sz:=sz) (e:=e) (vs:=vout.toList) ⟨by simpa using hvl,.inr ⟨w.heap.size,L,vout,rfl,Nat.le_refl _,heap_alloc_new w _,Nat.le_refl _,hLm,hvl,by rw [List.take_of_length_le (by simp [hvl])]⟩⟩ hAlt (fun i hi=>?_) fun i j c hi hj=>?_
  ·rw [←hel i hi,List.length_take,List.length_drop,hlen]
   have:=Nat.mul_le_mul_right sz (Nat.succ_le_of_lt hi)
   rw [Nat.succ_mul] at this
   omega
  ·have hc:out[i*sz+j]?=some c:=by
    rw [←hel i hi,List.getElem?_take] at hj
    split at hj
    ·rw [List.getElem?_drop] at hj;exact hj
    ·cases hj
   obtain ⟨u,h3,h4⟩:=h2.get hc
   exact ⟨u,h3,(h4.read (List.all_eq_true.1 hrd c (List.mem_of_getElem? hc))).keep (Fr.alloc (fun _=>False) w _) (fun _ e=>e.elim) fun b _ h=>h⟩
theorem st_shrink {l:List α} {hi:Option Operand} {b:Nat} (hx:s.ev x=.one (.own id)) (hb:look s.heap id=some (.row e sz l.length (lsEl f l))) (hh:Bnd s hi l.length b) (h1:b≤l.length) [TSl P t e sz bytes] (hd:dOk s d=true) :
  Ev P [id] s ⟨d,.slice t x none hi none,ty,pos,af,g⟩ (· = ((s.kill id).blk id (.row e sz (l.take b).length (lsEl f (l.take b)))).put d (.one (.own id))):=by
 have h2:=ev_shrink (P:=P) (d:=d) (ty:=ty) (pos:=pos) (af:=af) (g:=g) (t:=t) (el':=lsEl f (l.take b)) hx hb hh h1 (fun i hi=>by unfold lsEl;simp [List.getD,hi]) hd
 rw [show (l.take b).length=b by simp;omega]
 exact h2
theorem fit8 {n:Nat} (h:n≤4000000):n*8≤140737488355328:=by omega
theorem zie (id:Nat) (l:List α) (hs:∀x,(f x).length=sz) (hid:look s.heap id=none) (hx:s.ev x=.one .emp0) (hy:s.ev y=.one (.slc l.length (lsEl f l))∨∃i2 e2,s.ev y=.one (.own i2)∧look s.heap i2=some (.row e2 sz l.length (lsEl f l))) (hp:decide (l=[])=false)
  [TSl P t e sz bytes] (hfit:l.length*bytes≤140737488355328) (hmax:l.length≤140737488355328) (hd:dOk s d=true) :
  Ev P [] s ⟨d,.call { callee:=.builtin .append,args:=#[x,y],argTypes:=#[t,t] },ty,pos,af,g⟩ (· = (s.blk id (.row e sz l.length (lsEl f l))).put d (.one (.own id))) :=
 fun U T w0 a w hv ok K Q hK=>by
  have E:=TSl.elem (P:=P) (t:=t) (e:=e) (sz:=sz) (bytes:=bytes)
  have hmax':=maxLen_ge hmax
  have h0:0<l.length:=List.length_pos_iff.2 (of_decide_eq_false hp)
  obtain ⟨Ad,cap,news,hv2,_,_,hfl,hlen,hone,hrep⟩:=ok.m.src hy (fun i _=>hs _) E.pos
  obtain ⟨A0,he⟩:=emp_inv (by have:=ok.m.ev x;rw [hx] at this;exact this)
  have hrun:∃v' w',(Builtin.append_ #[t,t] ty #[a.eval x,a.eval y]).run P w=.ok v' w'∧w'.ownsRow w.heap.size e sz v' l.length news∧w.grownBy w' none:=by
   rw [he,hv2]
   cases A0 with
   | none =>
    obtain ⟨v',w',h1,h2,h3,_⟩:=Kit.run_app E w ty w.heap.size (.slice none 0 0) 0 [] ⟨by simp,.inl ⟨rfl,rfl⟩⟩ Ad l.length cap w.heap.size news hfl hlen hone (by omega) (by simpa using hfit) (Nat.le_refl _)
    exact ⟨v',w',h1,by simpa using h2,h3⟩
   | some a0 =>
    obtain ⟨v',w',h1,h2,h3⟩:=Kit.zgM E w ty w.heap.size (some a0) 0 w.heap.size [] (Kit.Flat.nil _ _ _) (by simp) Ad l.length cap w.heap.size news hfl hlen h0 (by omega) (by simpa using hfit) (Nat.le_refl _) rfl
    exact ⟨v',w',h1,by simpa using h2,h3⟩
  obtain ⟨v',w',hrun,ho,hg⟩:=hrun
  unfold Oper.wp
  rw [zeX (v:=undef) hrun]
  have hf:Fr (fun _=>False) w w':=Fr.grown hg fun k hk=>by cases hk
  have hsl:∃A c,v'=.slice A l.length c:=by obtain ⟨A,c,h,_⟩:=Kit.own_slice ho;exact ⟨A,c,h⟩
  have hbo:blockOf v'=v'.ownBlock:=by obtain ⟨A,c,rfl⟩:=hsl;cases A<;>rfl
  have hu:∀g,blockOf v'=some g→w.heap.size≤g:=fun g hg2=>(ho.lt g (by rw [←hbo];exact hg2)).1
  refine hK _ _ _ _ rfl (ok.new (blk:=.row e sz l.length (lsEl f l)) hid hf hu ⟨news,by rw [upd_same];exact Kit.own_base ho (Nat.zero_le _),fun i _=>hs _,fun i j c hi hj=>?_⟩ ⟨⟨e,sz,l.length,lsEl f l,look_same _ _ _⟩,(upd_same _ _ _).symm,?_⟩ hd) fun j _ ⟨b,hb⟩=>upd_other fun e=>by subst e;rw [hid] at hb;cases hb
  ·obtain ⟨u,h1,h2⟩:=hrep i j c hi hj
   exact ⟨u,h1,h2.keep hf (fun _ e=>e.elim) fun b hlt hb=>hb.imp (fun x=>x) fun hb=>mine_upd (fun g hg=>.inl (hu g hg)) b hb hlt⟩
  ·obtain ⟨A,c,h⟩:=hsl;exact ⟨A,l.length,c,h⟩
theorem zih (l:List α) (hs:∀x,(f x).length=sz) (hx:s.ev x=.one .emp0) (hy:s.ev y=.one (.slc l.length (lsEl f l))∨∃i2 e2,s.ev y=.one (.own i2)∧look s.heap i2=some (.row e2 sz l.length (lsEl f l))) (hp:decide (l=[])=true)
  [TSl P t e sz bytes] (hd:dOk s d=true) :
  Ev P [] s ⟨d,.call { callee:=.builtin .append,args:=#[x,y],argTypes:=#[t,t] },ty,pos,af,g⟩ (· = s.put d (.one .emp0)) :=
 ev_of_run hd fun U a w hv m=>by
  have E:=TSl.elem (P:=P) (t:=t) (e:=e) (sz:=sz) (bytes:=bytes)
  obtain ⟨Ad,cap,news,hv2,_,hcm,hfl,hlen,hone,hrep⟩:=m.src hy (fun i _=>hs _) E.pos
  obtain ⟨A0,he⟩:=emp_inv (by have:=m.ev x;rw [hx] at this;exact this)
  have hl:l.length=0:=by rw [of_decide_eq_true hp];rfl
  have hrun:=Kit.zgH (P:=P) E w ty A0 0 0 (Nat.le_refl _) Ad cap
  rw [hl] at hv2
  rw [←hv2,←he] at hrun
  exact ⟨_,w,zeX (v:=undef) hrun,Fr.refl _ _,by rw [he];exact RepC.emp0 _⟩
theorem zit {l:List α} {hi mx:Operand} {b:Nat} (hs:∀x,(f x).length=sz) (hx:s.ev x=.one (.slc l.length (lsEl f l))) (hh:Bnd s (some hi) l.length b) (hm:Bnd s (some mx) l.length b) (h1:b≤l.length) [TSl P t e sz bytes] (hd:dOk s d=true) :
  Ev P [] s ⟨d,.slice t x none (some hi) (some mx),ty,pos,af,g⟩ (· = s.put d (.one (.full (l.take b).length (lsEl f (l.take b))))) :=
 ev_of_run hd fun U a w hv m=>by
  have E:=TSl.elem (P:=P) (t:=t) (e:=e) (sz:=sz) (bytes:=bytes)
  have hr:=m.ev x
  rw [hx] at hr
  have hbl:(l.take b).length=b:=by simp;omega
  have run:∀(Ad:Option Addr) (cap:Nat),b≤cap→(Instr.sliceAt t (.slice Ad l.length cap) none (some (a.eval hi)) (some (a.eval mx))).run P w=.ok (.slice (if b=0 then Ad else Ad.map (·.add (0*sz))) b b) w:=fun Ad cap hc=>by
   obtain ⟨k1,e1⟩:=Bnd.v m hh
   obtain ⟨k2,e2⟩:=Bnd.v m hm
   have e1':a.eval hi=.int k1 (b:Int):=e1
   have e2':a.eval mx=.int k2 (b:Int):=e2
   rw [e1',e2']
   have hb:(Instr.sliceBounds true l.length cap none (some (.int k1 (b:Int))) (some (.int k2 (b:Int)))).run P w=.ok (0,b,b) w:=by
    simp [Instr.sliceBounds,Instr.sliceBound,asIntOf,hc]
   simp only [Instr.sliceAt,Sem.run_bind,run_underlying E.slice,Result.andThen_ok,Instr.slice,hb,TSl.run_size (P:=P) (t:=t) (e:=e) (sz:=sz) (bytes:=bytes),Sem.run_pure,Nat.sub_zero]
  have fin:∀(Ad:Option Addr) (cap:Nat),a.eval x=.slice Ad l.length cap→b≤cap→RepC (fun b=>U b∨mine s.heap hv b) w (.slc b (lsEl f (l.take b))) (.slice (if b=0 then Ad else Ad.map (·.add (0*sz))) b b) →
    ∃v w',(execOp a.eval ⟨d,.slice t x none (some hi) (some mx),ty,pos,af,g⟩).run P w=.ok (.value v) w'∧Fr (fun _=>False) w w'∧RepV s.heap hv (fun b=>U b∨mine s.heap hv b) w' (.one (.full (l.take b).length (lsEl f (l.take b)))) v:=fun Ad cap he hc hrep=>by
   refine ⟨.slice (if b=0 then Ad else Ad.map (·.add (0*sz))) b b,w,?_,Fr.refl _ _,?_⟩
   ·simp only [execOp,he,Option.map_none,Option.map_some,Sem.run_bind]
    rw [run Ad cap hc]
    rfl
   ·rw [hbl]
    exact RepC.full b _ _ hrep
  rcases RepC.slc_inv hr with ⟨h0,Ad,c0,hv',hc0,hn0⟩|⟨size,bb,off,cap,vals,hv',hb,hA,hc,hmx,hsz,hcell,hrep⟩
  ·have hb0:b=0:=by omega
   refine fin Ad c0 (by rw [hv',h0]) (by omega) ?_
   subst hb0
   rw [if_pos rfl]
   exact RepC.empty (by unfold maxLen;decide) fun _=>rfl
  ·refine fin _ cap hv' (by omega) ?_
   by_cases hb0:b=0
   ·subst hb0
    rw [if_pos rfl]
    exact RepC.empty (by unfold maxLen;decide) fun _=>rfl
   ·rw [if_neg hb0]
    simp only [Option.map_some,add_at,Nat.zero_mul,Nat.add_zero]
    have hel:∀i,i<b→lsEl f (l.take b) i=lsEl f l i:=fun i hi=>by
     unfold lsEl
     simp [List.getD,hi]
    refine RepC.slc b _ size bb off b vals hb hA (Nat.le_refl _) (by omega) (fun i hi=>by rw [hel i hi];exact hsz i (by omega)) (fun i j c hi hj=>?_) fun i j c hi hj=>?_
    ·rw [hel i hi] at hj;exact hcell i j c (by omega) hj
    ·rw [hel i hi] at hj;exact hrep i j c (by omega) hj
theorem zhl (l1 l2:List α) (hs:∀x,(f x).length=sz) (hx:s.ev x=.one (.full l1.length (lsEl f l1))) (hy:s.ev y=.one (.slc l2.length (lsEl f l2))∨∃i2 e2,s.ev y=.one (.own i2)∧look s.heap i2=some (.row e2 sz l2.length (lsEl f l2)))
  [TSl P t e sz bytes] (hfit:(l1.length+l2.length)*bytes≤140737488355328) (hmax:l1.length+l2.length≤140737488355328) (hd:dOk s d=true) :
  Ev P [] s ⟨d,.call { callee:=.builtin .append,args:=#[x,y],argTypes:=#[t,t] },ty,pos,af,g⟩ (· = s.put d (.one (CV.ls f (l1++l2)))) :=
 ev_of_run hd fun U a w hv m=>by
  have E:=TSl.elem (P:=P) (t:=t) (e:=e) (sz:=sz) (bytes:=bytes)
  have hmax':=maxLen_ge hmax
  obtain ⟨Ad,cap,news,hv2,_,hcm,hfl,hlen,hone,hrep⟩:=m.src hy (fun i _=>hs _) E.pos
  have hr:=m.ev x
  rw [hx] at hr
  obtain ⟨A0,he,hr0⟩:∃A0,a.eval x=.slice A0 l1.length l1.length∧RepC (fun b=>U b∨mine s.heap hv b) w (.slc l1.length (lsEl f l1)) (.slice A0 l1.length l1.length):=by
   have hr':RepC (fun b=>U b∨mine s.heap hv b) w (.full l1.length (lsEl f l1)) (a.eval x):=hr
   generalize a.eval x=u at hr'
   cases hr' with
   | full n el A0 h=>exact ⟨A0,rfl,h⟩
  obtain ⟨A1,cap1,olds,hv1,_,_,hfl1,hlen1,hone1,hrep1⟩:=src_slc hr0 (fun i _=>hs _) E.pos
  simp only [Value.slice.injEq] at hv1
  obtain ⟨rfl,_,rfl⟩:=hv1
  have hAlt:∀b,w.heap.size≤b→¬(U b∨mine s.heap hv b):=fun b hb h=>by
   rcases h with h|h
   ·have:=m.hm.ult b h;omega
   ·have:=m.hm.lt h;omega
  rcases Nat.eq_zero_or_pos l2.length with h0|h0
  ·have hrun:=Kit.zgH (P:=P) E w ty A0 l1.length l1.length (Nat.le_refl _) Ad cap
   rw [h0] at hv2
   rw [←hv2,←he] at hrun
   refine ⟨_,w,zeX (v:=undef) hrun,Fr.refl _ _,?_⟩
   have:l2=[]:=List.eq_nil_of_length_eq_zero h0
   subst this
   rw [List.append_nil,he]
   exact hr0
  ·have fin:∀v' w',(Builtin.append_ #[t,t] ty #[a.eval x,a.eval y]).run P w=.ok v' w'→w'.ownsRow w.heap.size e sz v' (l1.length+l2.length) (olds++news)→w.grownBy w' none →
     ∃v w',(execOp a.eval ⟨d,.call { callee:=.builtin .append,args:=#[x,y],argTypes:=#[t,t] },ty,pos,af,g⟩).run P w=.ok (.value v) w'∧Fr (fun _=>False) w w'∧RepV s.heap hv (fun b=>U b∨mine s.heap hv b) w' (.one (CV.ls f (l1++l2))) v:=fun v' w' h1 h2 h3=>by
    have hf:Fr (fun _=>False) w w':=Fr.grown h3 fun k hk=>by cases hk
    rw [←List.length_append] at h2
    refine ⟨v',w',zeX (v:=undef) h1,hf,zgX h2 hAlt (fun i _=>hs _) fun i j c hi hj=>?_⟩
    rw [zgy] at hj
    split at hj
    ·rename_i hlt
     obtain ⟨u,h4,h5⟩:=hrep1 i j c hlt hj
     exact ⟨u,by rw [List.getElem?_append_left (List.getElem?_eq_some_iff.1 h4).1];exact h4,h5.keep hf (fun _ e=>e.elim) fun _ _ h=>h⟩
    ·rename_i hlt
     rw [List.length_append] at hi
     obtain ⟨u,h4,h5⟩:=hrep (i - l1.length) j c (by omega) hj
     refine ⟨u,?_,h5.keep hf (fun _ e=>e.elim) fun _ _ h=>h⟩
     have e1:i*sz+j=olds.length+((i - l1.length)*sz+j):=by
      rw [hlen1]
      have e2:i=l1.length+(i - l1.length):=by omega
      conv=>lhs;rw [e2]
      rw [Nat.add_mul];omega
     rw [e1,List.getElem?_append_right (by omega),←h4]
     congr 1
     omega
   cases A0 with
   | none =>
    have hl0:l1.length=0:=by
     rcases RepC.slc_inv hr0 with ⟨h,_⟩|⟨_,_,_,_,_,h,_⟩
     ·exact h
     ·cases h
    have ho0:olds=[]:=List.eq_nil_of_length_eq_zero (by rw [hlen1,hl0,Nat.zero_mul])
    obtain ⟨v',w',hrun,ho,hg,_⟩:=Kit.run_app E w ty w.heap.size (.slice none 0 0) 0 [] ⟨by simp,.inl ⟨rfl,rfl⟩⟩ Ad l2.length cap w.heap.size news hfl hlen hone (by omega) (by rw [hl0] at hfit;simpa using hfit) (Nat.le_refl _)
    rw [←hv2] at hrun
    rw [hl0] at he
    rw [←he] at hrun
    rw [←ho0,←hl0] at ho
    exact fin v' w' hrun ho hg
   | some a0 =>
    obtain ⟨v',w',hrun,ho,hg⟩:=Kit.zgM E w ty w.heap.size (some a0) l1.length w.heap.size olds hfl1 hlen1 Ad l2.length cap w.heap.size news hfl hlen h0 hmax' hfit (Nat.le_refl _) rfl
    rw [←hv2,←he] at hrun
    exact fin v' w' hrun ho hg
end
def boxRow (e sz n:Nat) (el:Nat→List CV):Heap:=[(0,some (.box [.own 1])),(1,some (.row e sz n el))]
theorem zeM {e sz n:Nat} {el:Nat→List CV} {i:Nat} {b:Blk} (h:look (boxRow e sz n el) i=some b):(i=0∧b=.box [.own 1])∨(i=1∧b=.row e sz n el):=by
 unfold boxRow at h
 rw [look_cons] at h
 by_cases h0:0=i
 ·rw [if_pos h0] at h;injection h with h;exact .inl ⟨h0.symm,h.symm⟩
 ·rw [if_neg h0,look_cons] at h
  by_cases h1:1=i
  ·rw [if_pos h1] at h;injection h with h;exact .inr ⟨h1.symm,h.symm⟩
  ·rw [if_neg h1] at h;cases h
section
variable {P:Program} {s:ASt} {e sz n:Nat} {el:Nat→List CV}
theorem ret_w {fn:Func} {r r0:AV} {n':Nat} {el':Nat→List CV} (k:Nat) (hres:Res P fn s r0) (hk:s.kp=[0]) (hi:r.ids.isEmpty=true) (hr:∀g:Nat→Nat,r.ren g=r) (hb:look s.heap 0=some (.box [.own k])) (hl:look s.heap k=some (.row e sz n el)) (hn:n=n') (hel:el=el') (hle:TLe r0 r):RetOk P fn (Det r (boxRow e sz n' el')) s:=by
 subst hn;subst hel
 have hk0:¬(0=k):=fun h=>by rw [←h,hb] at hl;cases hl
 refine ⟨r,_,fun i=>bif Nat.beq i 0 then 0 else k,r0,hres,by rw [hr];exact hle,⟨rfl,rfl⟩,⟨fun id hid=>?_,fun id b h=>?_,fun i j h1 h2 h=>?_⟩,fun id hid=>?_⟩
 ·rw [List.isEmpty_iff.1 hi] at hid;cases hid
 ·rcases zeM h with ⟨rfl,rfl⟩|⟨rfl,rfl⟩
  ·exact ⟨hb,fun j hj=>by simp [Blk.ids,CV.ids] at hj;subst hj;rfl⟩
  ·exact ⟨hl,fun j hj=>by cases hj⟩
 ·obtain ⟨b1,h1⟩:=Option.isSome_iff_exists.1 h1
  obtain ⟨b2,h2⟩:=Option.isSome_iff_exists.1 h2
  rcases zeM h1 with ⟨rfl,_⟩|⟨rfl,_⟩<;>rcases zeM h2 with ⟨rfl,_⟩|⟨rfl,_⟩
  ·rfl
  ·exact absurd h hk0
  ·exact absurd h.symm hk0
  ·rfl
 ·rw [hk] at hid
  simp at hid
  subst hid
  exact ⟨rfl,_,rfl⟩
theorem ev_call_w {f:FuncId} [hF:IsFn P f] {d:Option Tmp} {ty:TypeId} {pos:String} {af:Array Edge} {g:Option (Nat×Bool)} (bx k:Nat) {args:List Operand} {tys:Array TypeId} {cargs xs:List AV} {r:AV} {e' sz' n':Nat} {el':Nat→List CV} (hfn:FnC P f cargs (boxRow e sz n el) (Det r (boxRow e' sz' n' el'))) (hxs:args.map s.ev=xs) (L:List Nat) (hargs:All2 (ArgV s.heap (gOf [bx,k]) L) xs cargs)
  (hb:look s.heap bx=some (.box [.own k])) (hl:look s.heap k=some (.row e sz n el)) (hal:(cargs.all fun x=>x.ids.all fun id=>Nat.beq id 0)=true) (hlr:(L.all fun id=>!memB [bx,k] id)=true)
  (hr:r.ids.isEmpty=true) (hren:r.ren (gOf [bx,k])=r) (hL:L=[]∨(r.scal=true∧∀i,i<n'→(el' i).all CV.scal=true)) (hd:dOk s d=true) :
  Ev P [k] s ⟨d,.call { callee:=.value (.func f),args:=args.toArray,argTypes:=tys },ty,pos,af,g⟩ (· = (((s.kill k).blk k (.row e' sz' n' el')).blk bx (.box [.own k])).put d r):=by
 subst hxs
 have hne:bx≠k:=fun h=>by rw [h,hl] at hb;cases hb
 have g0:gOf [bx,k] 0=bx:=rfl
 have g1:gOf [bx,k] 1=k:=rfl
 have kk:CallOk s [bx,k] L [k] (args.map s.ev) cargs (boxRow e sz n el) (Det r (boxRow e' sz' n' el')):=by
  refine ⟨by simp [hne],hargs,fun x hx id hid=>?_,fun id b h=>?_,fun i hi h=>?_,fun id hid hm=>?_,fun id hid=>⟨1,by simp,?_,e,sz,n,el,rfl⟩,?_⟩
  ·have h1:=List.all_eq_true.1 (List.all_eq_true.1 hal x hx) id hid
   rw [Nat.eq_of_beq_eq_true h1]
   rfl
  ·rcases zeM h with ⟨rfl,rfl⟩|⟨rfl,rfl⟩
   ·exact ⟨by simp,hb,(fun j hj=>by (simp [Blk.ids,CV.ids] at hj;subst hj;rfl)),(fun ⟨_,_,_,_,e⟩=>by (rw [h] at e;cases e)),(fun ⟨_,_,e⟩=>by (rw [h] at e;cases e))⟩
   ·exact ⟨by simp,hl,(fun j hj=>by cases hj),(fun _=>by simp [g1]),(fun ⟨_,_,e⟩=>by (rw [h] at e;cases e))⟩
  ·simp at hi
   have:i=0∨i=1:=by omega
   rcases this with rfl|rfl<;>cases h
  ·have h1:=List.all_eq_true.1 hlr id hid
   have h2:memB [bx,k] id=true:=List.any_eq_true.2 ⟨id,hm,Nat.beq_refl id⟩
   rw [h2] at h1;cases h1
  ·simp at hid;exact hid.symm
  ·rintro r' h' ⟨rfl,rfl⟩
   refine ⟨fun id h=>?_,fun id hid=>?_,fun id b h j hj=>?_,hL.imp id fun h=>⟨h.1,fun id b hbb=>?_⟩⟩
   ·obtain ⟨b,h⟩:=Option.isSome_iff_exists.1 h
    rcases zeM h with ⟨rfl,_⟩|⟨rfl,_⟩<;>simp
   ·rw [List.isEmpty_iff.1 hr] at hid;cases hid
   ·rcases zeM h with ⟨rfl,rfl⟩|⟨rfl,rfl⟩
    ·simp [Blk.ids,CV.ids] at hj;subst hj;rfl
    ·cases hj
   ·rcases zeM hbb with ⟨rfl,rfl⟩|⟨rfl,rfl⟩
    ·rfl
    ·exact h.2
 refine fun U T w0 a w hv ok K Q hK=>ev_call (P:=P) (d:=d) (ty:=ty) (pos:=pos) (af:=af) (g:=g) (tys:=tys) [bx,k] L [k] hfn kk hd U T w0 a w hv ok K Q fun s' v w' hv' hs ok' hh=>?_
 obtain ⟨r',h',⟨rfl,rfl⟩,rfl⟩:=hs
 refine hK _ v w' hv' rfl (ok'.equiv ?_ ?_ (fun t=>?_) fun id=>?_) hh
 ·cases d<;>rfl
 ·cases d<;>rfl
 ·show get (ASt.put (((s.kill k).blk k (.row e' sz' n' el')).blk bx (.box [.own k])) d r').env t=get (ASt.put { s.kill k with heap:=backHeap [bx,k] (boxRow e' sz' n' el')++(s.kill k).heap } d (r'.ren (gOf [bx,k]))).env t
  rw [hren]
  cases d<;>rfl
 ·have e1:(ASt.put (((s.kill k).blk k (.row e' sz' n' el')).blk bx (.box [.own k])) d r').heap=(bx,some (.box [.own k]))::(k,some (.row e' sz' n' el'))::(s.kill k).heap:=by cases d<;>rfl
  have e2:(callEnd s [bx,k] [k] d r' (boxRow e' sz' n' el')).heap=backHeap [bx,k] (boxRow e' sz' n' el')++(s.kill k).heap:=by unfold callEnd;cases d<;>rfl
  rw [e1,e2]
  rfl
end
def swp (a b i:Nat):Nat:=bif Nat.beq i a then b else bif Nat.beq i b then a else i
theorem swp_swp (a b i:Nat):swp a b (swp a b i)=i:=by
 unfold swp
 cases h1:Nat.beq i a with
 | true =>
  obtain rfl:=Nat.eq_of_beq_eq_true h1
  cases h2:Nat.beq b i with
  | true=>obtain rfl:=Nat.eq_of_beq_eq_true h2;simp [h1]
  | false=>simp [h2]
 | false =>
  cases h2:Nat.beq i b with
  | true=>obtain rfl:=Nat.eq_of_beq_eq_true h2;simp
  | false=>simp [h1,h2]
def ASt.swap (s:ASt) (a b:Nat):ASt:={ s with env:=s.env.map fun p=>(p.1,p.2.ren (swp a b)),heap:=s.heap.map fun p=>(swp a b p.1,p.2.map (Blk.ren (swp a b))) }
section
variable {s:ASt} {a b:Nat}
theorem look_swap (id:Nat):look (s.swap a b).heap (swp a b id)=(look s.heap id).map (Blk.ren (swp a b)):=by
 unfold ASt.swap
 generalize s.heap=h
 induction h with
 | nil=>rfl
 | cons p r ih =>
  obtain ⟨k,bl⟩:=p
  show look ((swp a b k,bl.map (Blk.ren (swp a b)))::_) _=_
  rw [look_cons,look_cons]
  by_cases hk:k=id
  ·rw [if_pos hk,if_pos (by rw [hk])]
  ·rw [if_neg hk,if_neg (fun e=>hk (by rw [←swp_swp a b k,e,swp_swp]))]
   exact ih
theorem look_swap' (id:Nat):look (s.swap a b).heap id=(look s.heap (swp a b id)).map (Blk.ren (swp a b)):=by
 have h:=look_swap (s:=s) (a:=a) (b:=b) (swp a b id)
 rwa [swp_swp] at h
theorem Ok.swapB {U T:Nat→Prop} {w0:Base} {ac:Act} {w:World} {hv:Nat→Value} (ok:Ok U T w0 s ac w hv) (hk:s.kp.all (fun i=>!(Nat.beq i a||Nat.beq i b))=true):Ok U T w0 (s.swap a b) ac w (fun i=>hv (swp a b i)):=by
 have hm:=ok.m.hm
 have hback:∀{id:Nat} {x:Blk},look (s.swap a b).heap id=some x→∃y,look s.heap (swp a b id)=some y∧y.ren (swp a b)=x:=fun {id x} h=>by
  rw [look_swap'] at h
  exact Option.map_eq_some_iff.1 h
 have hmine:∀q,mine (s.swap a b).heap (fun i=>hv (swp a b i)) q→mine s.heap hv q:=by
  rintro q ⟨i,x,h1,h2⟩
  obtain ⟨y,h3,_⟩:=hback h1
  exact ⟨swp a b i,y,h3,h2⟩
 have hlink:∀{id:Nat},(∃x,look s.heap id=some x)→Link s.heap hv (s.swap a b).heap (fun i=>hv (swp a b i)) (swp a b) id:=fun {id} ⟨x,hx⟩ =>
  Link.of hx (by rw [look_swap,hx];rfl) (by show hv (swp a b (swp a b id))=hv id;rw [swp_swp])
 have hA:∀q,(U q∨mine (s.swap a b).heap (fun i=>hv (swp a b i)) q)→(U q∨mine s.heap hv q):=fun q h=>h.imp (fun x=>x) (hmine q)
 refine ⟨⟨ok.m.nt,ok.m.defers,fun t=>?_,⟨fun id x hx=>?_,fun i j x y q h1 h2 h3 h4=>?_,fun q hq=>hm.avoid q (hmine q hq),hm.ult,hm.tab.sub hmine⟩⟩,ok.fr,fun q hq hlt=>ok.own q (hmine q hq) hlt,fun id hid=>?_⟩
 ·have hg:get (s.swap a b).env t=(get s.env t).ren (swp a b):=get_map (fun v=>v.ren (swp a b)) rfl _ _
  rw [hg]
  have hr:=ok.m.env t
  exact rep_weak ((repV_ren fun id hid=>hlink (hr.alive hid)).1 hr) hA
 ·obtain ⟨y,h1,rfl⟩:=hback hx
  have hr:=hm.blk _ y h1
  have h2:=(blk_ren (g:=swp a b) (h2:=(s.swap a b).heap) (hv2:=fun i=>hv (swp a b i)) (fun j hj=>hlink (hr.alive hj)) (by show hv (swp a b (swp a b (swp a b id)))=_;rw [swp_swp])).1 hr
  rw [swp_swp] at h2
  exact blk_weak h2 hA
 ·obtain ⟨x',h5,_⟩:=hback h1
  obtain ⟨y',h6,_⟩:=hback h2
  have:=hm.inj _ _ x' y' q h5 h6 h3 h4
  rw [←swp_swp a b i,this,swp_swp]
 ·obtain ⟨⟨cs,h1⟩,h2⟩:=ok.box id hid
  have h3:=List.all_eq_true.1 hk id hid
  have h4:swp a b id=id:=by
   simp only [Bool.not_eq_true',Bool.or_eq_false_iff] at h3
   simp [swp,h3.1,h3.2]
  exact ⟨⟨cs.map (CV.ren (swp a b)),by rw [look_swap',h4,h1];rfl⟩,by show hv (swp a b id)=_;rw [h4];exact h2⟩
end
section
variable {P:Program} {s:ASt} {Q:Exit→ASt→Prop}
theorem aops_swap (a b:Nat) {ops:Array Oper} {l:List Oper} (h:AOps P ops l (s.swap a b) Q) (hk:s.kp.all (fun i=>!(Nat.beq i a||Nat.beq i b))=true:=by rfl):AOps P ops l s Q:=fun U T w0 ac w hv ok=>h U T w0 ac w _ (ok.swapB hk)
end
end Abs
end Go.Proofs.YtclffekkjfhpdaaGreat

