import Derived.Test.YtclffekkjfhpdaaGreatQAbsN
import Derived.Laws.IdiomStrings
namespace Go.Proofs.YtclffekkjfhpdaaGreat
open Go.ChangeShapes Go.WideShapes Go.RowKit
set_option linter.unusedVariables false
set_option linter.unusedSimpArgs false
namespace Abs
theorem loop_list (bs:ByteArray):∀(k i:Nat) (r:List UInt8),bs.size - i=k→ByteArray.toList.loop bs i r=r.reverse++bs.data.toList.drop i:=by
 intro k
 induction k with
 | zero =>
  intro i r h
  unfold ByteArray.toList.loop
  have h1:¬i<bs.size:=by omega
  have h0:bs.data.toList.length=bs.size:=by simp
  have h2:bs.data.toList.drop i=[]:=List.drop_eq_nil_of_le (by omega)
  simp [h1,h2]
 | succ k ih =>
  intro i r h
  unfold ByteArray.toList.loop
  have h1:i<bs.size:=by omega
  rw [if_pos h1,ih (i+1) _ (by omega)]
  have hh:i<bs.data.size:=h1
  have h2:bs.data.toList.drop i=bs.get! i::bs.data.toList.drop (i+1):=by
   rw [List.drop_eq_getElem_cons (by simpa using hh)]
   congr 1
   exact (getElem!_pos bs.data i hh).symm
  rw [h2]
  simp
theorem zic (bs:ByteArray):bs.toList=bs.data.toList:=by
 unfold ByteArray.toList
 rw [loop_list bs _ 0 [] rfl]
 rfl
theorem bytes_eq (x y:ByteArray):(x.toList==y.toList)=decide (x=y):=by
 rw [zic,zic,Bool.eq_iff_iff]
 simp only [beq_iff_eq,decide_eq_true_eq]
 refine ⟨fun h=>?_,fun h=>by rw [h]⟩
 obtain ⟨⟨a⟩⟩:=x
 obtain ⟨⟨b⟩⟩:=y
 simp only at h
 rw [h]
section
variable {P:Program} {s:ASt} {Q:Exit→ASt→Prop} {d:Option Nat} {ty t u xT yT:TypeId} {pos:String} {af:Array Edge} {g:Option (Nat×Bool)} {x y c:Operand} {id off n m f o sz len bytes e:Nat} {agg:Bool} {cs:List CV} {k:IntKind} {el el':Nat→List CV}
theorem aops_skip {ops:Array Oper} {o:Oper} {rest:List Oper} (hw:∀(U:Nat→Prop) (a:Act) (w:World) (hv:Nat→Value),M U s a w hv→Region.wanted o (yielded ops a.tmps)=false) (hdd:dOk s o.dst=true) (hr:AOps P ops rest (s.put o.dst (.tup [])) Q):AOps P ops (o::rest) s Q :=
 fun U T w0 a w hv ok=>wpList_step fun K hK=>by
  rw [if_neg (by rw [hw U a w hv ok.m];simp)]
  refine hK _ _ (hr U T w0 _ w hv ?_)
  have:=ok.next (Fr.refl (fun _=>False) w) (fun _ e=>e.elim) (fun _ id _=>Pass.refl _ _ id) (fun id _=>Pass.refl _ _ id) ok.m.hm (fun _ h _=>h) (d:=o.dst) (r:=.tup []) (v:=undef) ⟨[],rfl,.nil⟩ hdd
  exact this
theorem aops_no {ops:Array Oper} {o:Oper} {rest:List Oper} {j t:Nat} {b want:Bool} (hg:o.guard=some (j,want)) (hd:(ops[j]?).bind (·.dst)=some t) (ht:get s.env t=.one (.val (.bool b))) (hn:Nat.blt t s.nt=true) (hdd:dOk s o.dst=true)
  (hb:b=!want) (hr:AOps P ops rest (s.put o.dst (.tup [])) Q):AOps P ops (o::rest) s Q:=aops_skip (fun U a w hv m=>by
 have hy:=zhd m hd ht (by simpa [Nat.blt_eq] using hn)
 simp [Region.wanted,hg,hy,hb]) hdd hr
theorem aops_und {ops:Array Oper} {o:Oper} {rest:List Oper} {j t:Nat} {want:Bool} (hg:o.guard=some (j,want)) (hd:(ops[j]?).bind (·.dst)=some t) (ht:get s.env t=.tup []) (hn:Nat.blt t s.nt=true) (hdd:dOk s o.dst=true) (hr:AOps P ops rest (s.put o.dst (.tup [])) Q):AOps P ops (o::rest) s Q:=aops_skip (fun U a w hv m=>by
 have hy:=undef_get m hd ht (by simpa [Nat.blt_eq] using hn)
 simp [Region.wanted,hg,hy]) hdd hr
theorem aw_yes {x y:Code} {b:Bool} (hc:s.ev c=.one (.val (.bool b))) (hb:b=true) (h:AW P x s Q):AW P (.cond c x y) s Q:=aw_cond hc (fun _=>h) fun e=>by rw [hb] at e;cases e
theorem aw_no {x y:Code} {b:Bool} (hc:s.ev c=.one (.val (.bool b))) (hb:b=false) (h:AW P y s Q):AW P (.cond c x y) s Q:=aw_cond hc (fun e=>by rw [hb] at e;cases e) fun _=>h
theorem ev_str_eq {p q:ByteArray} {b:Bool} (hx:s.ev x=.one (.val (.string p))) (hy:s.ev y=.one (.val (.string q))) (hd:dOk s d=true) (hb:decide (p=q)=b):Ev P [] s ⟨d,.binOp .eql xT x y yT,ty,pos,af,g⟩ (· = s.put d (.one (.val (.bool b)))) :=
 ev_of_val hd rfl fun U a w hv M=>by
  rw [←bytes_eq] at hb
  simp [execOp,eqGuard,binOp,M.val hx,M.val hy,Op.stringOp,hb]
theorem ev_str_ne {p q:ByteArray} {b:Bool} (hx:s.ev x=.one (.val (.string p))) (hy:s.ev y=.one (.val (.string q))) (hd:dOk s d=true) (hb:(!decide (p=q))=b):Ev P [] s ⟨d,.binOp .neq xT x y yT,ty,pos,af,g⟩ (· = s.put d (.one (.val (.bool b)))) :=
 ev_of_val hd rfl fun U a w hv M=>by
  rw [←bytes_eq] at hb
  simp [execOp,eqGuard,binOp,M.val hx,M.val hy,Op.stringOp,←hb,bne]
theorem ziC {k':IntKind} {i q:Int} {dd:TypeDesc} (hx:s.ev x=.one (.val (.int k i))) (hd:dOk s d=true) (hS:P.underlying xT=some dd) (hT:P.underlying yT=some (.int k')) (hq:k'.wrap i=q):Ev P [] s ⟨d,.convert xT yT x,ty,pos,af,g⟩ (· = s.put d (.one (.val (.int k' q)))) :=
 ev_of_val hd rfl fun U a w hv M=>by
  simp [execOp,convert,run_underlying hS,run_underlying hT,M.val hx,Conv.intToInt,hq]
theorem lit_run {parts:List (Nat×Operand)} {L:Nat} [kk:TSl P t e sz bytes] {z:Value} [kz:TZero P e z] {zs:List Value} (hz:z.cells=zs.toArray) (hone:zs.all (·.oneCell')=true) {out:List CV}
  (ho:fillC (fun i=>some (i*sz,sz)) ((List.range (L*sz)).map fun i=>CV.val (zs.getD (i%zs.length) undef)) (parts.map fun p=>(p.1,s.ev p.2))=some out) (hlen:out.length=L*sz) (hL:Nat.ble (L*sz) 16777216=true) {U:Nat→Prop} {a:Act} {w:World} {hv:Nat→Value} (m:M U s a w hv) :
  ∃vout,(execOp a.eval ⟨d,.buildSlice t L parts.toArray,ty,pos,af,g⟩).run P w=.ok (.value (.slice (some ⟨w.heap.size,0,none⟩) L L)) (w.alloc (.cells vout e))∧vout.size=L*sz∧All2 (RepT s.heap hv (fun b=>U b∨mine s.heap hv b) w) out vout.toList:=by
 have E:=TSl.elem (P:=P) (t:=t) (e:=e) (sz:=sz) (bytes:=bytes)
 have hL':=Nat.le_of_ble_eq_true hL
 let zero:Array Value:=if L*sz=0 then #[] else z.cells
 let vc:Array Value:=(Array.range (L*sz)).map fun i=>zero[i%zero.size]!
 have hinit:All2 (RepT s.heap hv (fun b=>U b∨mine s.heap hv b) w) ((List.range (L*sz)).map fun i=>CV.val (zs.getD (i%zs.length) undef)) vc.toList:=by
  refine All2.of (by simp [vc]) fun j c hj=>?_
  have hlt:j<L*sz:=by
   obtain ⟨h,_⟩:=List.getElem?_eq_some_iff.1 hj
   simpa using h
  have h0:¬L*sz=0:=by omega
  have hzs:0<zs.length:=by
   obtain ⟨i',z',hi',hz',hs',_,hc'⟩:=E.info
   have h6:z'=z:=by
    have h7:=kz.h
    rw [hi'] at h7
    simp only [Option.bind_some] at h7
    rw [hz'] at h7
    injection h7
   rw [h6,hz] at hc'
   have:=E.pos
   simp at hc'
   omega
  have hzero:zero=zs.toArray:=by show (if L*sz=0 then #[] else z.cells)=_;rw [if_neg h0,hz]
  have hm:=Nat.mod_lt j hzs
  refine ⟨zs[j%zs.length]'hm,?_,?_⟩
  ·show vc.toList[j]?=_
   have:zero.size=zs.length:=by rw [hzero];simp
   simp [vc,hlt,hzero,hm]
  ·rw [List.getElem?_map,List.getElem?_range hlt] at hj
   simp only [Option.map_some,Option.some.injEq] at hj
   subst hj
   simp only [List.getD,List.getElem?_eq_getElem hm,Option.getD_some]
   exact RepC.val _ (List.all_eq_true.1 hone _ (List.getElem_mem hm))
 obtain ⟨vout,h1,h2⟩:=fill_rep (parts_rep m parts) _ vc out hinit ho
 have hrun:(execOp a.eval ⟨d,.buildSlice t L parts.toArray,ty,pos,af,g⟩).run P w=.ok (.value (.slice (some ⟨w.heap.size,0,none⟩) L L)) (w.alloc (.cells vout e)):=by
  have hpl:(Array.map (fun (x:Nat×Operand)=>(x.1,a.eval x.2)) parts.toArray).toList=parts.map fun p=>(p.1,a.eval p.2):=by simp
  have hbig:¬(L*sz>2^24):=by omega
  by_cases h0:L*sz=0
  ·have hv0:vc=(Array.range (L*sz)).map fun i=>(#[]:Array Value)[i%(#[]:Array Value).size]!:=by
    show ((Array.range (L*sz)).map fun i=>(if L*sz=0 then #[] else z.cells)[i%(if L*sz=0 then #[] else z.cells).size]!)=_
    rw [if_pos h0]
   rw [hv0] at h1
   simp only [execOp,Instr.buildSlice,Sem.run_bind,run_underlying E.slice,Result.andThen_ok,TSl.run_size (P:=P) (t:=t) (e:=e) (sz:=sz) (bytes:=bytes),if_neg hbig,if_pos h0,Sem.run_pure]
   rw [hpl,h1]
   rfl
  ·have hv0:vc=(Array.range (L*sz)).map fun i=>z.cells[i%z.cells.size]!:=by
    show ((Array.range (L*sz)).map fun i=>(if L*sz=0 then #[] else z.cells)[i%(if L*sz=0 then #[] else z.cells).size]!)=_
    rw [if_neg h0]
   rw [hv0] at h1
   simp only [execOp,Instr.buildSlice,Sem.run_bind,run_underlying E.slice,Result.andThen_ok,TSl.run_size (P:=P) (t:=t) (e:=e) (sz:=sz) (bytes:=bytes),if_neg hbig,if_neg h0,Sem.run_pure,TZero.run]
   rw [hpl,h1]
   rfl
 exact ⟨vout,hrun,by have:=h2.length;simp at this;omega,h2⟩
theorem ziq (id:Nat) (hid:look s.heap id=none) {parts:List (Nat×Operand)} {L:Nat} [kk:TSl P t e sz bytes] {z:Value} [kz:TZero P e z] {zs:List Value} (hz:z.cells=zs.toArray) (hone:zs.all (·.oneCell')=true) {out:List CV}
  (ho:fillC (fun i=>some (i*sz,sz)) ((List.range (L*sz)).map fun i=>CV.val (zs.getD (i%zs.length) undef)) (parts.map fun p=>(p.1,s.ev p.2))=some out) (hrd:out.all CV.read=true) (hlen:out.length=L*sz) (hL:Nat.ble (L*sz) 16777216=true) {el:Nat→List CV} (hel:∀i,i<L→(out.drop (i*sz)).take sz=el i) (hd:dOk s d=true) :
  Ev P [] s ⟨d,.buildSlice t L parts.toArray,ty,pos,af,g⟩ (· = ASt.put { s with heap:=(id,some (.row e sz L el))::s.heap } d (.one (.own id))) :=
 fun U T w0 a w hv ok K Q hK=>by
  have E:=TSl.elem (P:=P) (t:=t) (e:=e) (sz:=sz) (bytes:=bytes)
  have hL':=Nat.le_of_ble_eq_true hL
  obtain ⟨vout,hrun,hvl,h2⟩:=lit_run (P:=P) (d:=d) (ty:=ty) (pos:=pos) (af:=af) (g:=g) (t:=t) (e:=e) (sz:=sz) (bytes:=bytes) hz hone ho hlen hL ok.m
  unfold Oper.wp
  rw [hrun]
  have hget:∀(i j:Nat) (c:CV),i<L→(el i)[j]?=some c→out[i*sz+j]?=some c∧j<sz:=fun i j c hi hj=>by
   rw [←hel i hi,List.getElem?_take] at hj
   split at hj
   ·rename_i hlt;rw [List.getElem?_drop] at hj;exact ⟨hj,hlt⟩
   ·cases hj
  have hbl:∀i,i<L→(el i).length=sz:=fun i hi=>by
   rw [←hel i hi,List.length_take,List.length_drop,hlen]
   have:=Nat.mul_le_mul_right sz (Nat.succ_le_of_lt hi)
   rw [Nat.succ_mul] at this
   omega
  have hLm:L≤maxLen:=by
   have h3:=Nat.le_mul_of_pos_right L E.pos
   unfold maxLen
   omega
  have hu:∀g,blockOf (.slice (some ⟨w.heap.size,0,none⟩) L L)=some g→w.heap.size≤g:=fun g hg=>by simp [blockOf] at hg;omega
  refine hK _ _ _ _ rfl (ok.new (blk:=.row e sz L el) hid (Fr.alloc _ _ _) hu ⟨vout.toList,?_,hbl,fun i j c hi hj=>?_⟩ ⟨⟨e,sz,L,el,look_same _ _ _⟩,(upd_same _ _ _).symm,_,_,_,rfl⟩ hd) fun j _ ⟨b,hb⟩=>upd_other fun e=>by subst e;rw [hid] at hb;cases hb
  ·rw [upd_same]
   exact ⟨by simpa using hvl,.inr ⟨w.heap.size,L,vout,rfl,Nat.zero_le _,heap_alloc_new w _,Nat.le_refl _,hLm,hvl,by rw [List.take_of_length_le (by simp [hvl])]⟩⟩
  ·obtain ⟨hc,_⟩:=hget i j c hi hj
   obtain ⟨u,h3,h4⟩:=h2.get hc
   exact ⟨u,h3,(h4.read (List.all_eq_true.1 hrd c (List.mem_of_getElem? hc))).keep (Fr.alloc (fun _=>False) w _) (fun _ e=>e.elim) fun b hlt hb=>hb.imp (fun x=>x) fun hb=>mine_upd (fun g hg=>.inl (hu g hg)) b hb hlt⟩
end
end Abs
end Go.Proofs.YtclffekkjfhpdaaGreat
namespace Go.Proofs.YtclffekkjfhpdaaGreat
open Go.ChangeShapes Go.WideShapes Go.RowKit
set_option linter.unusedVariables false
set_option linter.unusedSimpArgs false
namespace Abs
def Det (r:AV) (h:Heap):AV→Heap→Prop:=fun r' h'=>r'=r∧h'=h
theorem wrap_i64 {n:Int} (h:-9223372036854775808≤n) (h':n≤9223372036854775807):IntKind.i64.wrap n=n:=by
 simp [IntKind.wrap,IntKind.bits,IntKind.signed]
 omega
theorem wrap_u64 {n:Int} (h:0≤n) (h':n≤18446744073709551615):IntKind.u64.wrap n=n:=by
 simp [IntKind.wrap,IntKind.bits,IntKind.signed]
 omega
theorem ArgC.mk {H:Heap} {g:Nat→Nat} {L:List Nat} {c c':CV} (h:c'.ren g=c):ArgC H g L c c':=h▸.ren c'
inductive EvAll (s:ASt):List Operand→List AV→Prop
 | nil:EvAll s [] []
 | cons {x:Operand} {v:AV} {xs:List Operand} {vs:List AV} (h:s.ev x=v) (t:EvAll s xs vs):EvAll s (x::xs) (v::vs)
theorem map_ev {s:ASt}:∀{xs:List Operand} {vs:List AV},EvAll s xs vs→xs.map s.ev=vs
 | _,_,.nil=>rfl
 | _,_,.cons h t=>by rw [List.map_cons,h,map_ev t]
section
variable {P:Program} {s:ASt} {d:Option Nat} {ty t:TypeId} {pos:String} {af:Array Edge} {g:Option (Nat×Bool)}
theorem zgP:∀(parts:List (Nat×Operand)),(parts.map (·.1)).zip (parts.map fun p=>s.ev p.2)=parts.map fun p=>(p.1,s.ev p.2)
 | []=>rfl
 | p::r=>by simp [zgP r]
theorem ev_build' {parts:List (Nat×Operand)} {vs:List AV} {out:List CV} (hx:parts.map (fun p=>s.ev p.2)=vs) {z:Value} [kz:TZero P t z] {zs:List Value} (hz:z.cells=zs.toArray) (hone:zs.all (·.oneCell')=true) {ps:List (Nat×Nat)} [hp:TPlaces P t ps]
  (ho:fillC (fun (i:Nat)=>ps[i]?) (zs.map CV.val) ((parts.map (·.1)).zip vs)=some out) (hd:dOk s d=true):Ev P [] s ⟨d,.build t parts.toArray,ty,pos,af,g⟩ (· = s.put d (.agg out)):=by
 refine ev_build (zs:=zs) hz hone ?_ hd
 rw [←ho,←hx,zgP]
theorem ev_slice_lit' (id:Nat) (hid:look s.heap id=none) {parts:List (Nat×Operand)} {vs:List AV} (hx:parts.map (fun p=>s.ev p.2)=vs) {L sz bytes e:Nat} [kk:TSl P t e sz bytes] {z:Value} [kz:TZero P e z] {zs:List Value} (hz:z.cells=zs.toArray) (hone:zs.all (·.oneCell')=true) {out:List CV}
  (ho:fillC (fun i=>some (i*sz,sz)) ((List.range (L*sz)).map fun i=>CV.val (zs.getD (i%zs.length) undef)) ((parts.map (·.1)).zip vs)=some out) (hrd:out.all CV.read=true) (hlen:out.length=L*sz) (hL:Nat.ble (L*sz) 16777216=true) {el:Nat→List CV} (hel:∀i,i<L→(out.drop (i*sz)).take sz=el i) (hd:dOk s d=true) :
  Ev P [] s ⟨d,.buildSlice t L parts.toArray,ty,pos,af,g⟩ (· = ASt.put { s with heap:=(id,some (.row e sz L el))::s.heap } d (.one (.own id))):=by
 refine ziq id hid (zs:=zs) hz hone ?_ hrd hlen hL hel hd
 rw [←ho,←hx,zgP]
theorem ev_call_v {f:FuncId} [hF:IsFn P f] {args:List Operand} {tys:Array TypeId} {cargs xs:List AV} {r:AV} (hfn:FnC P f cargs [] (Det r [])) (hxs:args.map s.ev=xs) (L:List Nat) (hargs:All2 (ArgV s.heap (gOf []) L) xs cargs)
  (hc:cargs.all (fun x=>x.ids.isEmpty)=true) (hr:r.ids.isEmpty=true) (hren:r.ren (gOf [])=r) (hL:L=[]∨r.scal=true) (hd:dOk s d=true) :
  Ev P [] s ⟨d,.call { callee:=.value (.func f),args:=args.toArray,argTypes:=tys },ty,pos,af,g⟩ (· = s.put d r):=by
 subst hxs
 have k:CallOk s [] L [] (args.map s.ev) cargs [] (Det r []):=by
  refine ⟨List.nodup_nil,hargs,fun x hx id hid=>?_,fun id b hb=>(by cases hb),fun i hi=>(by cases hi),fun id _=>(by simp),fun id hid=>(by cases hid),?_⟩
  ·have:=List.all_eq_true.1 hc x hx
   rw [List.isEmpty_iff] at this
   rw [this] at hid;cases hid
  ·rintro r' h' ⟨rfl,rfl⟩
   refine ⟨fun id hid=>(by cases hid),fun id hid=>?_,fun id b hb=>(by cases hb),hL.imp id fun h=>⟨h,fun id b hb=>(by cases hb)⟩⟩
   rw [List.isEmpty_iff] at hr
   rw [hr] at hid;cases hid
 refine fun U T w0 a w hv ok K Q hK=>ev_call (P:=P) (d:=d) (ty:=ty) (pos:=pos) (af:=af) (g:=g) (tys:=tys) [] L [] hfn k hd U T w0 a w hv ok K Q fun s' v w' hv' hs=>?_
 obtain ⟨r',h',⟨rfl,rfl⟩,rfl⟩:=hs
 refine hK _ v w' hv' ?_
 show ASt.put { s with heap:=[]++s.heap } d (r'.ren (gOf []))=_
 rw [hren]
 rfl
theorem zee {f:FuncId} [hF:IsFn P f] {x:Operand} {caps:List CV} {args:List Operand} {tys:Array TypeId} {cargs xs:List AV} {r:AV} (hfn:FnC P f cargs [] (Det r [])) (hx:s.ev x=.one (.fn f caps)) (hxs:args.map s.ev++caps.map .one=xs) (L:List Nat) (hargs:All2 (ArgV s.heap (gOf []) L) xs cargs)
  (hc:cargs.all (fun x=>x.ids.isEmpty)=true) (hr:r.ids.isEmpty=true) (hren:r.ren (gOf [])=r) (hL:L=[]∨r.scal=true) (hd:dOk s d=true) (hcf:(caps.all fun c=>match c with|.fn _ _=>false|_=>true)=true:=by rfl) :
  Ev P [] s ⟨d,.call { callee:=.value x,args:=args.toArray,argTypes:=tys },ty,pos,af,g⟩ (· = s.put d r):=by
 subst hxs
 have k:CallOk s [] L [] (args.map s.ev++caps.map .one) cargs [] (Det r []):=by
  refine ⟨List.nodup_nil,hargs,fun x hx id hid=>?_,fun id b hb=>(by cases hb),fun i hi=>(by cases hi),fun id _=>(by simp),fun id hid=>(by cases hid),?_⟩
  ·have:=List.all_eq_true.1 hc x hx
   rw [List.isEmpty_iff] at this
   rw [this] at hid;cases hid
  ·rintro r' h' ⟨rfl,rfl⟩
   refine ⟨fun id hid=>(by cases hid),fun id hid=>?_,fun id b hb=>(by cases hb),hL.imp id fun h=>⟨h,fun id b hb=>(by cases hb)⟩⟩
   rw [List.isEmpty_iff] at hr
   rw [hr] at hid;cases hid
 refine fun U T w0 a w hv ok K Q hK=>ziD (P:=P) (d:=d) (ty:=ty) (pos:=pos) (af:=af) (g:=g) (tys:=tys) hx (fun c hcm f' l e=>by
  have:=List.all_eq_true.1 hcf c hcm
  rw [e] at this;cases this) [] L [] hfn k hd U T w0 a w hv ok K Q fun s' v w' hv' hs=>?_
 obtain ⟨r',h',⟨rfl,rfl⟩,rfl⟩:=hs
 refine hK _ v w' hv' ?_
 show ASt.put { s with heap:=[]++s.heap } d (r'.ren (gOf []))=_
 rw [hren]
 rfl
theorem ev_call_r {f:FuncId} [hF:IsFn P f] (k:Nat) (hk:look s.heap k=none) {args:List Operand} {tys:Array TypeId} {cargs xs:List AV} {r:AV} {e sz n:Nat} {el:Nat→List CV} (hfn:FnC P f cargs [] (Det r [(0,some (.row e sz n el))])) (hxs:args.map s.ev=xs) (L:List Nat) (hargs:All2 (ArgV s.heap (gOf [k]) L) xs cargs)
  (hc:cargs.all (fun x=>x.ids.isEmpty)=true) (hr:r.ids.all (fun i=>Nat.beq i 0)=true) (hLk:memB L k=false) (hL:L=[]∨(r.scal=true∧∀i,i<n→(el i).all CV.scal=true)) (hd:dOk s d=true) :
  Ev P [] s ⟨d,.call { callee:=.value (.func f),args:=args.toArray,argTypes:=tys },ty,pos,af,g⟩ (· = ASt.put { s with heap:=(k,some (.row e sz n el))::s.heap } d (r.ren (gOf [k]))):=by
 subst hxs
 have h0:∀i b,look [(0,some (Blk.row e sz n el))] i=some b→i=0∧b=.row e sz n el:=fun i b hb=>by
  rw [look_cons] at hb
  by_cases h:0=i
  ·rw [if_pos h] at hb;injection hb with hb;exact ⟨h.symm,hb.symm⟩
  ·rw [if_neg h] at hb;cases hb
 have k:CallOk s [k] L [] (args.map s.ev) cargs [] (Det r [(0,some (.row e sz n el))]):=by
  refine ⟨by simp,hargs,fun x hx id hid=>?_,fun id b hb=>(by cases hb),fun i hi _=>?_,fun id hid hm=>?_,fun id hid=>(by cases hid),?_⟩
  ·have:=List.all_eq_true.1 hc x hx
   rw [List.isEmpty_iff] at this
   rw [this] at hid;cases hid
  ·have:i=0:=by simp at hi;exact hi
   subst this
   exact hk
  ·simp at hm
   subst hm
   have:memB L id=true:=List.any_eq_true.2 ⟨id,hid,Nat.beq_refl id⟩
   rw [hLk] at this;cases this
  ·rintro r' h' ⟨rfl,rfl⟩
   refine ⟨fun id hid=>?_,fun id hid=>?_,fun id b hb=>?_,hL.imp id fun h=>⟨h.1,fun id b hb=>?_⟩⟩
   ·obtain ⟨b,hb⟩:=Option.isSome_iff_exists.1 hid
    rw [(h0 id b hb).1];simp
   ·have:=Nat.eq_of_beq_eq_true (List.all_eq_true.1 hr id hid)
    rw [this];rfl
   ·rw [(h0 id b hb).2];intro j hj;cases hj
   ·rw [(h0 id b hb).2];exact h.2
 refine fun U T w0 a w hv ok K Q hK=>ev_call (P:=P) (d:=d) (ty:=ty) (pos:=pos) (af:=af) (g:=g) (tys:=tys) _ L [] hfn k hd U T w0 a w hv ok K Q fun s' v w' hv' hs=>?_
 obtain ⟨r',h',⟨rfl,rfl⟩,rfl⟩:=hs
 exact hK _ v w' hv' rfl
theorem ev_call_o {f:FuncId} [hF:IsFn P f] (k:Nat) {args:List Operand} {tys:Array TypeId} {cargs xs:List AV} {r:AV} {e sz n e' sz' n':Nat} {el el':Nat→List CV} (hk:look s.heap k=some (.row e sz n el)) (hfn:FnC P f cargs [(0,some (.row e sz n el))] (Det r [(0,some (.row e' sz' n' el'))])) (hxs:args.map s.ev=xs) (L:List Nat) (hargs:All2 (ArgV s.heap (gOf [k]) L) xs cargs)
  (hc:cargs.all (fun x=>x.ids.all (fun i=>Nat.beq i 0))=true) (hr:r.ids.all (fun i=>Nat.beq i 0)=true) (hLk:memB L k=false) (hL:L=[]∨(r.scal=true∧∀i,i<n'→(el' i).all CV.scal=true)) (hd:dOk s d=true) :
  Ev P [k] s ⟨d,.call { callee:=.value (.func f),args:=args.toArray,argTypes:=tys },ty,pos,af,g⟩ (· = ASt.put { s.kill k with heap:=(k,some (.row e' sz' n' el'))::(s.kill k).heap } d (r.ren (gOf [k]))):=by
 subst hxs
 have h0:∀{e sz n:Nat} {el:Nat→List CV} i b,look [(0,some (Blk.row e sz n el))] i=some b→i=0∧b=.row e sz n el:=fun i b hb=>by
  rw [look_cons] at hb
  by_cases h:0=i
  ·rw [if_pos h] at hb;injection hb with hb;exact ⟨h.symm,hb.symm⟩
  ·rw [if_neg h] at hb;cases hb
 have kk:CallOk s [k] L [k] (args.map s.ev) cargs [(0,some (.row e sz n el))] (Det r [(0,some (.row e' sz' n' el'))]):=by
  refine ⟨by simp,hargs,fun x hx id hid=>?_,fun id b hb=>?_,fun i hi hn=>?_,fun id hid hm=>?_,fun id hid=>⟨0,by simp,?_,e,sz,n,el,rfl⟩,?_⟩
  ·have h1:=List.all_eq_true.1 hc x hx
   have h2:=Nat.eq_of_beq_eq_true (List.all_eq_true.1 h1 id hid)
   rw [h2];rfl
  ·obtain ⟨rfl,rfl⟩:=h0 id b hb
   exact ⟨by simp,hk,fun j hj=>(by cases hj),fun _=>by simp [gOf],fun ⟨_,_,e⟩=>by rw [hb] at e;cases e⟩
  ·have:i=0:=by simp at hi;exact hi
   subst this
   cases hn
  ·simp at hm
   subst hm
   have:memB L id=true:=List.any_eq_true.2 ⟨id,hid,Nat.beq_refl id⟩
   rw [hLk] at this;cases this
  ·simp at hid;exact hid.symm
  ·rintro r' h' ⟨rfl,rfl⟩
   refine ⟨fun id hid=>?_,fun id hid=>?_,fun id b hb=>?_,hL.imp id fun h=>⟨h.1,fun id b hb=>?_⟩⟩
   ·obtain ⟨b,hb⟩:=Option.isSome_iff_exists.1 hid
    rw [(h0 id b hb).1];simp
   ·have:=Nat.eq_of_beq_eq_true (List.all_eq_true.1 hr id hid)
    rw [this];rfl
   ·rw [(h0 id b hb).2];intro j hj;cases hj
   ·rw [(h0 id b hb).2];exact h.2
 refine fun U T w0 a w hv ok K Q hK=>ev_call (P:=P) (d:=d) (ty:=ty) (pos:=pos) (af:=af) (g:=g) (tys:=tys) _ L _ hfn kk hd U T w0 a w hv ok K Q fun s' v w' hv' hs=>?_
 obtain ⟨r',h',⟨rfl,rfl⟩,rfl⟩:=hs
 exact hK _ v w' hv' rfl
theorem fn_intro' {f:FuncId} {fn:Func} {c:Code} {args:List AV} {h:Heap} {R:AV→Heap→Prop} (nt:Nat) (hf:P.funcs[f]?=some fn) (hb:fn.body=some c) (hnt:fn.ntmps=nt) (hn:Nat.ble args.length nt=true)
  (haw:AW P c (start nt args h) (EndR P fn (boxesOf h) R)):FnC P f args h R:=by
 subst hnt
 exact fn_intro hf hb hn haw
def ASt.blk (s:ASt) (id:Nat) (b:Blk):ASt:={ s with heap:=(id,some b)::s.heap }
variable {x y c:Operand} {cs:List CV} {id off n e sz bytes m:Nat} {agg:Bool} {el el' el2:Nat→List CV}
theorem st_move {a:CV} (hx:s.ev x=.one a) (hd:dOk s d=true):Ev P [] s ⟨d,.move x,ty,pos,af,g⟩ (· = s.put d (.one a)):=ev_move hx hd
theorem st_movet {a:List AV} (hx:s.ev x=.tup a) (hd:dOk s d=true):Ev P [] s ⟨d,.move x,ty,pos,af,g⟩ (· = s.put d (.tup a)):=ev_move hx hd
theorem st_assign {a:CV} (hx:s.ev x=.one a) (hd:dOk s d=true):Ev P [] s ⟨d,.assign x,ty,pos,af,g⟩ (· = s.put d (.one a)):=ev_assign hx hd
theorem zau {b:Bool} {a:CV} (hc:s.ev c=.one (.val (.bool b))) (hb:b=true) (hx:s.ev x=.one a) (hd:dOk s d=true):Ev P [] s ⟨d,.pick c x y,ty,pos,af,g⟩ (· = s.put d (.one a)):=ziv hc hb hx hd
theorem zaz {b:Bool} {a:CV} (hc:s.ev c=.one (.val (.bool b))) (hb:b=false) (hy:s.ev y=.one a) (hd:dOk s d=true):Ev P [] s ⟨d,.pick c x y,ty,pos,af,g⟩ (· = s.put d (.one a)):=ziJ hc hb hy hd
theorem st_box (id:Nat) (hid:look s.heap id=none) {r:AV} (hx:s.ev x=r) (hc:r.cells=some cs) (hd:dOk s d=true):Ev P [] s ⟨d,.box t x,ty,pos,af,g⟩ (· = (s.blk id (.box cs)).put d (.one (.ptr id 0))):=ev_box id hid hx hc hd
theorem st_alloc {cs:List CV} {z:Value} {zs:List Value} [k:TZero P t z] (id:Nat) (hid:look s.heap id=none) (hz:z.cells=zs.toArray) (hone:zs.all (·.oneCell')=true) (hcs:zs.map CV.val=cs) (hd:dOk s d=true) :
  Ev P [] s ⟨d,.alloc t,ty,pos,af,g⟩ (· = (s.blk id (.box cs)).put d (.one (.ptr id 0))):=by subst hcs;exact ev_alloc id hid hz hone hd
theorem st_store {r:AV} {new cs':List CV} (hx:s.ev x=.one (.ptr id off)) (hb:look s.heap id=some (.box cs)) (hy:s.ev y=r) (hc:r.cells=some new) (hsol:new.all CV.solid=true) [kk:TVar P t agg n] (hn:Nat.beq new.length n=true) (hl:Nat.ble (off+n) cs.length=true) (hd:dOk s d=true) (hcs:cs.take off++new++cs.drop (off+n)=cs') :
  Ev P [] s ⟨d,.store t x y,ty,pos,af,g⟩ (· = (s.blk id (.box cs')).put d (.one .any)):=by subst hcs;exact ev_store hx hb hy hc hsol (Nat.eq_of_beq_eq_true hn) hl hd
theorem st_append {n':Nat} (hx:s.ev x=.one (.own id)) (hb:look s.heap id=some (.row e sz n el)) (hy:s.ev y=.one (.slc m el2)∨∃i2 e2,s.ev y=.one (.own i2)∧look s.heap i2=some (.row e2 sz m el2)) (hs:∀i,i<m→(el2 i).length=sz)
  [TSl P t e sz bytes] (hn:n+m=n') (hel:∀i,i<n'→el' i=if i<n then el i else el2 (i - n)) (hfit:n'*bytes≤140737488355328) (hmax:n'≤maxLen) (hd:dOk s d=true) :
  Ev P [id] s ⟨d,.call { callee:=.builtin .append,args:=#[x,y],argTypes:=#[t,t] },ty,pos,af,g⟩ (· = ((s.kill id).blk id (.row e sz n' el')).put d (.one (.own id))):=ev_append hx hb hy hs hn hel hfit hmax hd
theorem zac {parts:List (Nat×Operand)} {vs:List AV} {L:Nat} {out:List CV} {el:Nat→List CV} [kk:TSl P t e sz bytes] {z:Value} [kz:TZero P e z] {zs:List Value} (id:Nat) (hid:look s.heap id=none) (hx:parts.map (fun p=>s.ev p.2)=vs) (hz:z.cells=zs.toArray) (hone:zs.all (·.oneCell')=true)
  (ho:fillC (fun i=>some (i*sz,sz)) ((List.range (L*sz)).map fun i=>CV.val (zs.getD (i%zs.length) undef)) ((parts.map (·.1)).zip vs)=some out) (hrd:out.all CV.read=true) (hlen:out.length=L*sz) (hL:Nat.ble (L*sz) 16777216=true) (hel:∀i,i<L→(out.drop (i*sz)).take sz=el i) (hd:dOk s d=true) :
  Ev P [] s ⟨d,.buildSlice t L parts.toArray,ty,pos,af,g⟩ (· = (s.blk id (.row e sz L el)).put d (.one (.own id))):=ev_slice_lit' id hid hx (zs:=zs) hz hone ho hrd hlen hL hel hd
theorem st_call_r {f:FuncId} [hF:IsFn P f] {args:List Operand} {tys:Array TypeId} {cargs xs:List AV} {r r':AV} {e sz n:Nat} {el:Nat→List CV} (k:Nat) (hk:look s.heap k=none) (hfn:FnC P f cargs [] (Det r [(0,some (.row e sz n el))])) (hxs:args.map s.ev=xs) (L:List Nat) (hargs:All2 (ArgV s.heap (gOf [k]) L) xs cargs)
  (hc:cargs.all (fun x=>x.ids.isEmpty)=true) (hr:r.ids.all (fun i=>Nat.beq i 0)=true) (hLk:memB L k=false) (hL:L=[]∨(r.scal=true∧∀i,i<n→(el i).all CV.scal=true)) (hd:dOk s d=true) (hr':r.ren (gOf [k])=r') :
  Ev P [] s ⟨d,.call { callee:=.value (.func f),args:=args.toArray,argTypes:=tys },ty,pos,af,g⟩ (· = (s.blk k (.row e sz n el)).put d r'):=by subst hr';exact ev_call_r k hk hfn hxs L hargs hc hr hLk hL hd
theorem st_call_o {f:FuncId} [hF:IsFn P f] {args:List Operand} {tys:Array TypeId} {cargs xs:List AV} {r r':AV} {e sz n e' sz' n':Nat} {el el':Nat→List CV} (k:Nat) (hk:look s.heap k=some (.row e sz n el)) (hfn:FnC P f cargs [(0,some (.row e sz n el))] (Det r [(0,some (.row e' sz' n' el'))])) (hxs:args.map s.ev=xs) (L:List Nat) (hargs:All2 (ArgV s.heap (gOf [k]) L) xs cargs)
  (hc:cargs.all (fun x=>x.ids.all (fun i=>Nat.beq i 0))=true) (hr:r.ids.all (fun i=>Nat.beq i 0)=true) (hLk:memB L k=false) (hL:L=[]∨(r.scal=true∧∀i,i<n'→(el' i).all CV.scal=true)) (hd:dOk s d=true) (hr':r.ren (gOf [k])=r') :
  Ev P [k] s ⟨d,.call { callee:=.value (.func f),args:=args.toArray,argTypes:=tys },ty,pos,af,g⟩ (· = ((s.kill k).blk k (.row e' sz' n' el')).put d r'):=by subst hr';exact ev_call_o k hk hfn hxs L hargs hc hr hLk hL hd
theorem map_ev2 {parts:List (Nat×Operand)} {vs:List AV} (h:EvAll s (parts.map (·.2)) vs):parts.map (fun p=>s.ev p.2)=vs:=by
 rw [←map_ev h,List.map_map]
 rfl
theorem ret_v {fn:Func} {s:ASt} {r r0:AV} (hres:Res P fn s r0) (hk:s.kp=[]) (hi:r.ids.isEmpty=true) (hr:r.ren (fun i=>i)=r) (hle:TLe r0 r):RetOk P fn (Det r []) s :=
 ret_pure hk (List.isEmpty_iff.1 hi) hr hres hle ⟨rfl,rfl⟩
theorem ret_r {fn:Func} {s:ASt} {r r0:AV} {e sz n n':Nat} {el el':Nat→List CV} (k:Nat) (hres:Res P fn s r0) (hk:s.kp=[]) (hb:look s.heap k=some (.row e sz n el)) (hi:r.ids.all (fun i=>Nat.beq i 0)=true) (hle:TLe r0 (r.ren fun _=>k)) (hn:n=n') (hel:el=el'):RetOk P fn (Det r [(0,some (.row e sz n' el'))]) s:=by
 subst hn;subst hel
 exact ret_row k hk hi hb hres hle ⟨rfl,rfl⟩
end
end Abs
end Go.Proofs.YtclffekkjfhpdaaGreat
namespace Go.Proofs.YtclffekkjfhpdaaGreat
open Go.ChangeShapes Go.WideShapes Go.RowKit
set_option linter.unusedVariables false
set_option linter.unusedSimpArgs false
namespace Abs
theorem maxLen_ge {n:Nat} (h:n≤140737488355328):n≤maxLen:=by unfold maxLen;omega
theorem flat_drop {α:Type} {f:α→List CV} {sz:Nat} (hs:∀x,(f x).length=sz):∀(l:List α) (i:Nat),(l.flatMap f).drop (i*sz)=(l.drop i).flatMap f
 | l,0=>by simp
 | [],i+1=>by simp
 | x::l,i+1=>by
  rw [List.flatMap_cons,List.drop_append,List.drop_of_length_le (by rw [hs,Nat.add_mul];omega),List.nil_append,hs,show (i+1)*sz - sz=i*sz by rw [Nat.add_mul];omega,flat_drop hs l i]
  rfl
theorem lit_el {α:Type} [Inhabited α] (f:α→List CV) (sz:Nat) (l:List α) (hs:∀x,(f x).length=sz):∀i,i<l.length→((l.flatMap f).drop (i*sz)).take sz=lsEl f l i:=fun i hi=>by
 rw [flat_drop hs,List.drop_eq_getElem_cons hi,List.flatMap_cons,List.take_append,List.take_of_length_le (by rw [hs];omega),hs,Nat.sub_self,List.take_zero,List.append_nil]
 simp [lsEl,hi]
section
variable {P:Program} {s:ASt} {d:Option Nat} {ty t:TypeId} {pos:String} {af:Array Edge} {g:Option (Nat×Bool)} {x y:Operand} {id e sz bytes:Nat} {α:Type} [Inhabited α] {f:α→List CV}
theorem st_app_ls (l1 l2:List α) (hs:∀x,(f x).length=sz) (hx:s.ev x=.one (.own id)) (hb:look s.heap id=some (.row e sz l1.length (lsEl f l1))) (hy:s.ev y=.one (.slc l2.length (lsEl f l2))∨∃i2 e2,s.ev y=.one (.own i2)∧look s.heap i2=some (.row e2 sz l2.length (lsEl f l2)))
  [TSl P t e sz bytes] (hfit:(l1.length+l2.length)*bytes≤140737488355328) (hmax:l1.length+l2.length≤140737488355328) (hd:dOk s d=true) :
  Ev P [id] s ⟨d,.call { callee:=.builtin .append,args:=#[x,y],argTypes:=#[t,t] },ty,pos,af,g⟩ (· = ((s.kill id).blk id (.row e sz (l1++l2).length (lsEl f (l1++l2)))).put d (.one (.own id))) :=
 st_append hx hb hy (fun i _=>hs _) List.length_append.symm (fun i _=>zgy f l1 l2 i) (by rw [List.length_append];exact hfit) (by rw [List.length_append];exact maxLen_ge hmax) hd
theorem st_cut {lo hi:Option Operand} {k:List α} (l:List α) (a b:Nat) (hs:∀x,(f x).length=sz) (hx:s.ev x=.one (.slc l.length (lsEl f l))) (hl:Bnd s lo 0 a) (hh:Bnd s hi l.length b) (h1:a≤b) (h2:b≤l.length) [TSl P t e sz bytes] (hk:(l.drop a).take (b - a)=k) (hd:dOk s d=true) :
  Ev P [] s ⟨d,.slice t x lo hi none,ty,pos,af,g⟩ (· = s.put d (.one (.slc k.length (lsEl f k)))):=by
 subst hk
 have hlen:((l.drop a).take (b - a)).length=b - a:=by simp;omega
 rw [hlen]
 refine ev_slice hx hl hh h1 h2 (fun i _=>hs _) rfl (fun i hi=>?_) hd
 have h3:a+i<l.length:=by omega
 simp [lsEl,List.getElem?_take,hi]
end
def EnvLe (s:ASt):List (Nat×AV)→Prop
 | []=>True
 | (t,v)::r=>VLe (get s.env t) v∧EnvLe s r
def HeapLe (s:ASt):Heap→Prop
 | []=>True
 | (k,b)::r=>BLe (look s.heap k) b∧HeapLe s r
theorem EnvLe.all {s:ASt}:∀{env:List (Nat×AV)},EnvLe s env→∀p,p∈env→VLe (get s.env p.1) p.2
 | [],_,p,hp=>by cases hp
 | (t,v)::r,h,p,hp=>by
  rcases List.mem_cons.1 hp with rfl|hp
  ·exact h.1
  ·exact EnvLe.all h.2 p hp
theorem HeapLe.all {s:ASt}:∀{h:Heap},HeapLe s h→∀p,p∈h→BLe (look s.heap p.1) p.2
 | [],_,p,hp=>by cases hp
 | (t,v)::r,h,p,hp=>by
  rcases List.mem_cons.1 hp with rfl|hp
  ·exact h.1
  ·exact HeapLe.all h.2 p hp
theorem weak_mk {s:ASt} {nt:Nat} {kp:List Nat} {env:List (Nat×AV)} {heap:Heap} (h1:nt=s.nt) (h2:kp=s.kp) (h3:EnvLe s env) (h4:HeapLe s heap) (h5:(kp++envIds env++heapIds heap).all (fun j=>(look heap j).isSome)=true):Weak s ⟨nt,kp,env,heap⟩ :=
 ⟨h1,h2,h3.all,h4.all,fun j hj=>List.all_eq_true.1 h5 j hj⟩
end Abs
end Go.Proofs.YtclffekkjfhpdaaGreat

