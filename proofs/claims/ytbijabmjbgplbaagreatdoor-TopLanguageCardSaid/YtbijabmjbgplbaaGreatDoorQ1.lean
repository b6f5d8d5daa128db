import Derived.Test.YtbijabmjbgplbaaGreatDoorQ0
set_option linter.unusedVariables false
set_option linter.unusedSimpArgs false
namespace Go.Proofs.YtbijabmjbgplbaaGreatDoor
open Go.ChangeShapes Go.WideShapes Go.RowKit
namespace G
def zgX (place:Nat->Option (Nat×Nat)) (cs:List XV):List (Nat×XA)->Option (List XV)
 | []=>some cs
 | (i,v)::rest =>
  match place i,zdH v with
  | some (off,size),some new=>bif Nat.beq new.length size&&Nat.ble (off+new.length) cs.length then zgX place (splice cs off new) rest else none
  | _,_=>none
theorem zfO:∀(new:List Value) (off j:Nat) (cs:Array Value),off+j+new.length<=cs.size ->
  ((new.zipIdx j).foldl (fun (cs:Array Value) (p:Value×Nat)=>cs.setIfInBounds (off+p.2) p.1) cs).toList=splice cs.toList (off+j) new
 | [],off,j,cs,h=>by simp [splice]
 | v::new,off,j,cs,h=>by
  simp only [List.length_cons] at h;simp only [List.zipIdx_cons,List.foldl_cons];rw [zfO new off (j+1) _ (by simp;omega)];have e:=list_seg_step cs.toList (off+j) v new (by simp;omega);simpa [splice,Array.toList_setIfInBounds,Nat.add_assoc,Nat.add_comm 1,Nat.add_left_comm] using e
theorem zbi {κ:Kn} {E:Operand->XA} {a:Act} (hE:∀x,RepA κ (E x) (a.eval x)) {place:Nat->Option (Nat×Nat)} :
  ∀(ps:List (Nat×Operand)) (cells:List XV) (vcells:Array Value) (out:List XV),All2 (RepX κ) cells vcells.toList->zgX place cells (ps.map fun p=>(p.1,E p.2))=some out ->
   ∃vout,Instr.fill place vcells (ps.map fun p=>(p.1,a.eval p.2))=some vout/\All2 (RepX κ) out vout.toList
 | [],cells,vcells,out,h,ho=>by cases ho;exact ⟨vcells,rfl,h⟩
 | (i,y)::ps,cells,vcells,out,h,ho=>by
  simp only [List.map_cons,zgX] at ho;split at ho
  .rename_i off size new hpl hv
   cases hb:(Nat.beq new.length size&&Nat.ble (off+new.length) cells.length) with
   | false=>rw [hb] at ho;cases ho
   | true =>
    rw [hb,cond_true] at ho;rw [Bool.and_eq_true] at hb;have e1:=Nat.eq_of_beq_eq_true hb.1;have e2:=Nat.le_of_ble_eq_true hb.2;obtain ⟨us,h1,h2⟩:=JY hv (hE y);have hlen:=h2.length;have hcl:=h.length;simp only [Array.length_toList] at hcl;have hset:=zfO us off 0 vcells (by omega);simp only [Nat.add_zero] at hset;have hsz:(a.eval y).cells.size=us.length:=by rw [h1];simp
    obtain ⟨vout,h3,h4⟩:=zbi hE ps (splice cells off new) (us.zipIdx.foldl (fun (cs:Array Value) (p:Value×Nat)=>cs.setIfInBounds (off+p.2) p.1) vcells) out (by rw [hset];exact h.splice off h2) ho;refine ⟨vout,?_,h4⟩;simp only [List.map_cons];unfold Instr.fill;rw [hpl];simp only;have hne:¬((a.eval y).cells.size≠size\/off+(a.eval y).cells.size>vcells.size):=by omega
    rw [if_neg (by simpa using hne)];rw [<-h3]
    congr 1
    rw [h1];simp [<-Array.foldl_toList]
  .cases ho
def placesOf (P:Program) (t:TypeId):Option (List (Nat×Nat)) :=
 match P.underlying t with
 | some (.struct fs)=>fs.toList.mapM fun f=>(varOf P f.type).map fun (_,n)=>(f.offset,n)
 | _=>none
theorem run_places {P:Program} (w:World):∀(fs:List Field) (ps:List (Nat×Nat)),(fs.mapM fun f=>(varOf P f.type).map fun (_,n)=>(f.offset,n))=some ps ->
  (fs.mapM fun f=>(do pure (f.offset,<-sizeOf f.type):Sem (Nat×Nat))).run P w=.ok ps w:=by
 intro fs
 induction fs with
 | nil=>intro ps h;simp at h;subst h;rfl
 | cons f fs ih =>
  intro ps h;simp only [List.mapM_cons,Option.bind_eq_bind,Option.pure_def] at h;cases hv:varOf P f.type with
  | none=>rw [hv] at h;simp at h
  | some bn =>
   rw [hv] at h;obtain ⟨b,n⟩:=bn;simp only [Option.map_some,Option.bind_some] at h;cases hr:(fs.mapM fun f=>(varOf P f.type).map fun (x:Bool×Nat)=>(f.offset,x.2)) with
   | none=>rw [hr] at h;simp at h
   | some qs =>
    rw [hr] at h;simp only [Option.bind_some,Option.some.injEq] at h;subst h;have:TVar P f.type b n:=⟨hv⟩;have ih':=ih qs hr;simp only [List.mapM_cons,Sem.run_bind,jl (P:=P) (t:=f.type) (agg:=b) (n:=n),Result.andThen_ok,Sem.run_pure,ih']
theorem zaT {P:Program} {t:TypeId} {fs:Array Field} {ps:List (Nat×Nat)} (hu:P.underlying t=some (.struct fs)) (h0:placesOf P t=some ps) (w:World) :
  (fs.mapM fun f=>(do pure (f.offset,<-sizeOf f.type):Sem (Nat×Nat))).run P w=.ok ps.toArray w:=by
 unfold placesOf at h0;rw [hu] at h0;have:=run_places (P:=P) w fs.toList ps h0;rw [Array.mapM_eq_mapM_toList];show (Sem.run P ((fs.toList.mapM fun f=>(do pure (f.offset,<-sizeOf f.type):Sem (Nat×Nat))).bind fun l=>.pure l.toArray) w)=_;rw [show (Sem.run P ((fs.toList.mapM fun f=>(do pure (f.offset,<-sizeOf f.type):Sem (Nat×Nat))).bind fun l=>.pure l.toArray) w)=_ from Sem.run_bind _ _ _ _];rw [this];rfl
section
variable {P:Program} {E:Operand->XA} {H:Nat->Option XB} {R:Type} {K:Upd->Option R} {r:R} {m:Option R} {x y:Operand} {t xT yT:TypeId} {q:Nat}
def zg6 (P:Program) (E:Operand->XA) (t:TypeId) (ps:Array (Nat×Operand)):Option Upd :=
 match zci P t,placesOf P t with
 | some zs,some pl=>(zgX (fun i=>pl[i]?) zs (ps.toList.map fun p=>(p.1,E p.2))).map fun out=>(XA.ag out).x
 | _,_=>none
theorem zg7 {ps:Array (Nat×Operand)} {u:Upd} (h:zg6 P E t ps=some u):Says P E H (.build t ps) u:=by
 unfold zg6 at h;split at h
 .rename_i zs pl hz hp
  obtain ⟨out,ho,rfl⟩:=Option.map_eq_some_iff.1 h;obtain ⟨z,hZ,hone,rfl⟩:=J9 hz;obtain ⟨ps⟩:=ps;refine yS fun {κ a o'} ho' hE hH=>?_;obtain ⟨vout,h1,h2⟩:=zbi hE ps _ z.cells out (QL hone) ho;refine ⟨.agg vout,?_,vout.toList,by simp,h2⟩;cases hu:P.underlying t with
  | none=>unfold placesOf at hp;rw [hu] at hp;cases hp
  | some dd =>
   cases dd with
   | struct fs =>
    have hpl:=zaT (P:=P) (ps:=pl) hu hp κ.w;have hpf:(fun (i:Nat)=>pl.toArray[i]?)=(fun (i:Nat)=>pl[i]?):=by funext i;simp
    have hl:(Array.map (fun (x:Nat×Operand)=>(x.1,a.eval x.2)) ps.toArray).toList=ps.map fun p=>(p.1,a.eval p.2):=by simp
    simp only [execOp,ho',Instr.build,Sem.run_bind,zaH.run,Result.andThen_ok,run_underlying hu,hpl,hpf];rw [hl,h1];simp
   | array n e=>unfold placesOf at hp;rw [hu] at hp;cases hp
   | _=>unfold placesOf at hp;rw [hu] at hp;cases hp
 .cases h
def zbw (P:Program) (E:Operand->XA) (t:TypeId) (ps:Array (Nat×Operand)):Option Upd :=
 match zci P t,zhp P t with
 | some zs,some (len,e,sz,agg)=>(zgX (fun i=>bif Nat.blt i len then some (i*sz,sz) else none) zs (ps.toList.map fun p=>(p.1,E p.2))).map fun out=>(XA.ag out).x
 | _,_=>none
theorem zct {place place':Nat->Option (Nat×Nat)} (hp:∀i p,place i=some p->place' i=some p):∀{ps:List (Nat×Value)} {cs out:Array Value},Instr.fill place cs ps=some out->Instr.fill place' cs ps=some out
 | [],cs,out,h=>h
 | (i,v)::ps,cs,out,h=>by
  unfold Instr.fill at h ⊢;split at h
  .cases h
  .rename_i off size hpl
   rw [hp _ _ hpl];simp only;split at h
   .cases h
   .rename_i hc
    rw [if_neg hc];exact zct hp h
theorem zdB {ps:Array (Nat×Operand)} {u:Upd} (h:zbw P E t ps=some u):Says P E H (.build t ps) u:=by
 unfold zbw at h;split at h
 .rename_i zs len e sz agg hz hp
  obtain ⟨out,ho,rfl⟩:=Option.map_eq_some_iff.1 h;obtain ⟨z,hZ,hone,rfl⟩:=J9 hz;obtain ⟨ps⟩:=ps;have hTA:TArr P t len e sz agg:=⟨hp⟩;obtain ⟨hu,hV⟩:=TArr.parts (P:=P) (t:=t) (len:=len) (e:=e) (sz:=sz) (agg:=agg);refine yS fun {κ a o'} ho' hE hH=>?_;obtain ⟨vout,h1,h2⟩:=zbi hE ps _ z.cells out (QL hone) ho;refine ⟨.agg vout,?_,vout.toList,by simp,h2⟩;have h3:Instr.fill (fun i=>some (i*sz,sz)) z.cells (ps.map fun p=>(p.1,a.eval p.2))=some vout:=zct (fun i p hpp=>by
   cases hb:Nat.blt i len
   .rw [hb] at hpp;cases hpp
   .rw [hb] at hpp;exact hpp) h1
  have hl:(Array.map (fun (x:Nat×Operand)=>(x.1,a.eval x.2)) ps.toArray).toList=ps.map fun p=>(p.1,a.eval p.2):=by simp
  simp only [execOp,ho',Instr.build,Sem.run_bind,zaH.run,Result.andThen_ok,run_underlying hu,jl (P:=P) (t:=e) (agg:=agg) (n:=sz)];rw [hl,h3];simp
 .cases h
def zkp (c:EC):List (List XV)->Option (List (T c))
 | []=>some []
 | cs::r=>match mk c cs with
  | some x=>match zkp c r with
   | some l=>some (x::l)
   | none=>none
  | none=>none
def chunks (sz:Nat):Nat->List XV->List (List XV)
 | 0,_=>[]
 | n+1,cs=>cs.take sz::chunks sz n (cs.drop sz)
theorem zd5 {κ:Kn} {c:EC}:∀(n:Nat) {cs:List XV} {l:List (T c)} {vs:List Value},zkp c (chunks (szC c) n cs)=some l->cs.length=n*szC c->All2 (RepX κ) cs vs->l.length=n/\All2 (RepF κ.R κ.w) (flat c l) vs
 | 0,cs,l,vs,h,hl,hr=>by
  cases h;have:cs=[]:=List.eq_nil_of_length_eq_zero (by simpa using hl);subst this;cases hr;exact ⟨rfl,.nil⟩
 | n+1,cs,l,vs,h,hl,hr=>by
  unfold chunks zkp at h;split at h
  .rename_i z hz
   split at h
   .rename_i k hk
    cases h;have hl2:(cs.drop (szC c)).length=n*szC c:=by rw [List.length_drop,hl,Nat.succ_mul];omega
    obtain ⟨h1,h2⟩:=zd5 n hk hl2 (hr.drop _);refine ⟨by simp [h1],?_⟩;have h3:=(uo (qY c z)).1 (zbS hz (hr.take (szC c)));have:vs=vs.take (szC c)++vs.drop (szC c):=(List.take_append_drop _ _).symm;rw [this];show All2 _ (List.flatMap (cv c) (z::k)) _;rw [List.flatMap_cons];exact h3.append h2
   .cases h
  .cases h
def aLit (P:Program) (E:Operand->XA) (t:TypeId) (L:Nat) (ps:Array (Nat×Operand)) (q:Nat):Option Upd :=
 match slOf P t with
 | some (e,sz,by_) =>
  match ecT e,zci P e with
  | some c,some zs =>
   bif Nat.beq (szC c) sz&&(Nat.beq zs.length sz&&(Nat.blt 0 sz&&Nat.ble (L*sz) 16777216)) then
    (match zgX (fun i=>some (i*sz,sz)) ((List.range (L*sz)).map fun i=>zs.getD (i%zs.length) .any) (ps.toList.map fun p=>(p.1,E p.2)) with
    | some out=>bif Nat.beq out.length (L*sz) then (zkp c (chunks sz L out)).map fun l=>⟨.one (.own q),[(q,some (.row e c l))],[q],[]⟩ else none
    | none=>none) else none
  | _,_=>none
 | none=>none
theorem zlH {L:Nat} {ps:Array (Nat×Operand)} {u:Upd} (h:aLit P E t L ps q=some u):Says P E H (.buildSlice t L ps) u:=by
 unfold aLit at h;split at h
 .rename_i e sz by_ hT
  split at h
  .rename_i c zs hec hz
   cases hc:(Nat.beq (szC c) sz&&(Nat.beq zs.length sz&&(Nat.blt 0 sz&&Nat.ble (L*sz) 16777216)))
   .rw [hc] at h;cases h
   .rw [hc,cond_true] at h
    simp only [Bool.and_eq_true] at hc;obtain ⟨h1,h2,h3,h4⟩:=hc;have h1:=Nat.eq_of_beq_eq_true h1;have h2:=Nat.eq_of_beq_eq_true h2;have h3:0<sz:=by simpa [Nat.blt_eq] using h3
    have h4:=Nat.le_of_ble_eq_true h4;subst h1;split at h
    .rename_i out ho
     cases hc2:Nat.beq out.length (L*szC c)
     .rw [hc2] at h;cases h
     .rw [hc2,cond_true] at h
      have h5:=Nat.eq_of_beq_eq_true hc2;obtain ⟨l,hl,rfl⟩:=Option.map_eq_some_iff.1 h;obtain ⟨z,hZ,hone,rfl⟩:=J9 hz;obtain ⟨ps⟩:=ps;refine ⟨fun {κ a o'} ho' hE hH hW hf K Q hK=>?_⟩;have hTS:TSl P t e (szC c) by_:=⟨hT⟩;have El:=TSl.elem (P:=P) (t:=t) (e:=e) (sz:=szC c) (bytes:=by_)
      let zero:Array Value:=if L*szC c=0 then #[] else z.cells
      let vc:Array Value:=(Array.range (L*szC c)).map fun i=>zero[i%zero.size]!
      have hzl:z.cells.size=szC c:=by simpa using h2
      have hinit:All2 (RepX κ) ((List.range (L*szC c)).map fun i=>(z.cells.toList.map cst).getD (i%(z.cells.toList.map cst).length) .any) vc.toList:=by
       refine All2.of (by simp [vc]) fun j cc v hj hv=>?_;have hlt:j<L*szC c:=by
        obtain ⟨h,_⟩:=List.getElem?_eq_some_iff.1 hj;simpa using h
       have h0:¬L*szC c=0:=by omega
       have hzero:zero=z.cells:=if_neg h0;have hm:=Nat.mod_lt j h3;have hmz:j%szC c<z.cells.size:=by omega
       rw [List.getElem?_map,List.getElem?_range hlt] at hj;cases hj;have e1:vc.toList[j]?=some z.cells[j%szC c]:=by
        simp [vc,hlt,hzero,hzl];exact getElem!_pos z.cells (j%szC c) hmz
       rw [e1] at hv;cases hv;have e2:(z.cells.toList.map cst).getD (j%(z.cells.toList.map cst).length) .any=cst z.cells[j%szC c]:=by
        simp [List.getD,hzl];rw [Array.getElem?_eq_getElem hmz];rfl
       show RepX κ ((z.cells.toList.map cst).getD (j%(z.cells.toList.map cst).length) .any) _;rw [e2];exact zcQ (List.all_eq_true.1 hone _ (by simp))
      obtain ⟨vout,g1,g2⟩:=zbi hE ps _ vc out hinit ho;have hrun:(execOp a.eval o').run P κ.w=.ok (.value (.slice (some ⟨κ.w.heap.size,0,none⟩) L L)) (κ.w.alloc (.cells vout e)):=by
       have hpl:(Array.map (fun (x:Nat×Operand)=>(x.1,a.eval x.2)) ps.toArray).toList=ps.map fun p=>(p.1,a.eval p.2):=by simp
       have hbig:¬(L*szC c>2^24):=by omega
       by_cases h0:L*szC c=0
       .have hv0:vc=(Array.range (L*szC c)).map fun i=>(#[]:Array Value)[i%(#[]:Array Value).size]!:=by
         show ((Array.range (L*szC c)).map fun i=>(if L*szC c=0 then #[] else z.cells)[i%(if L*szC c=0 then #[] else z.cells).size]!)=_;rw [if_pos h0]
        rw [hv0] at g1;simp only [execOp,ho',Instr.buildSlice,Sem.run_bind,run_underlying El.slice,Result.andThen_ok,TSl.jl (P:=P) (t:=t) (e:=e) (sz:=szC c) (bytes:=by_),if_neg hbig,if_pos h0,Sem.run_pure];rw [hpl,g1];rfl
       .have hv0:vc=(Array.range (L*szC c)).map fun i=>z.cells[i%z.cells.size]!:=by
         show ((Array.range (L*szC c)).map fun i=>(if L*szC c=0 then #[] else z.cells)[i%(if L*szC c=0 then #[] else z.cells).size]!)=_;rw [if_neg h0]
        rw [hv0] at g1;simp only [execOp,ho',Instr.buildSlice,Sem.run_bind,run_underlying El.slice,Result.andThen_ok,TSl.jl (P:=P) (t:=t) (e:=e) (sz:=szC c) (bytes:=by_),if_neg hbig,if_neg h0,Sem.run_pure,zaH.run];rw [hpl,g1];rfl
      unfold Oper.wp;rw [hrun];have hq:¬κ.N q:=hf q (List.mem_singleton.2 rfl);have hfr:Fr (Touch κ H []) κ.w (κ.w.alloc (.cells vout e)):=Fr.alloc _ _ _;have hle:=QF (u:=.slice (some ⟨κ.w.heap.size,0,none⟩) L L) hH hq hfr;have hvl:vout.size=L*szC c:=by have:=g2.length;simp at this;omega
      have hLm:L<=maxLen:=by
       have:=Nat.le_mul_of_pos_right L h3;unfold maxLen;omega
      obtain ⟨k1,k2⟩:=zd5 L hl h5 g2;refine hK _ (κ.bind q (.slice (some ⟨κ.w.heap.size,0,none⟩) L L) (κ.w.alloc (.cells vout e))) (XJ (x:=.row e c l) (v:=.one (.own q)) (wr:=[]) hH hW hq hfr ⟨vout.toList,?_,k2.imp fun _ _ k=>RepF.mono hle k⟩ ⟨.inr rfl,jH.symm,rfl⟩ fun _ b hb=>.inr ?_)
      .rw [jH,k1]
       refine ku.of (b:=0) ⟨by simpa using hvl,.inr ⟨κ.w.heap.size,L,vout,rfl,Nat.zero_le _,heap_alloc_new κ.w _,Nat.le_refl _,hLm,hvl,by rw [List.take_of_length_le (by simp [hvl])]⟩⟩
      .cases L with
       | zero=>cases hb
       | succ L=>cases hb;exact Nat.le_refl _
    .cases h
  .cases h
 .cases h
def zev (P:Program) (E:Operand->XA) (H:Nat->Option XB) (t u:TypeId) (x y:Operand) (q:Nat) (K:Upd->Option R):Option (Option R) :=
 match slOf P t with
 | some (e,sz,by_) =>
  match listOf E H y with
  | some ⟨c,l2⟩ =>
   bif Nat.beq t u&&(Nat.beq (szC c) sz&&Nat.ble by_ 33554432) then
    (match E x with
    | .one .nil=>some (Md.ifp (l2.length<=4000000) (K ⟨.one (.own q),[(q,some (.row e c l2))],[q],[]⟩))
    | .one (.own id)=>match H id with
     | some (.row e' c' l1)=>if h:c'=c then (bif Nat.beq e e' then some (Md.ifp (l1.length+l2.length<=4000000) (K ⟨.one (.own q),[(q,some (.row e c (h▸l1++l2))),(id,none)],[q],[id]⟩)) else none) else none
     | _=>none
    | .one (.fl c' l1)=>if h:c'=c then some (Md.ifp (l1.length+l2.length<=4000000) (K (XV.ls c (h▸l1++l2)).x)) else none
    | _=>none) else none
  | none=>none
 | none=>none
theorem Wi {v:Value} {A:Option Addr} {n c b:Nat} (hv:v=.slice A n c) (h:yV v=some b):v.ownBlock=some b:=by
 subst hv;cases A with
 | none=>cases c<;>cases h
 | some a=>cases c<;>first|(cases h;done)|exact h
theorem zf9 {κ:Kn} {w:World} {e:TypeId} {by_:Nat} {c:EC} {l1 l2:List (T c)} {v v2:Value} {vs:List Value} {ty:TypeId} (hw:w=κ.w) (hT:slOf P t=some (e,szC c,by_)) (h1:ku w e (szC c) v l1.length vs) (he:Xq κ.R w c l1 vs) (h2:Src κ.R w c l2 v2) (hl:l1.length+l2.length<=4000000) (hb:by_<=33554432) :
  ∃v' w' vs',(Builtin.append_ #[t,t] ty #[v,v2]).run P w=.ok v' w'/\ku w' e (szC c) v' (l1++l2).length vs'/\Xq κ.R w c (l1++l2) vs'/\Fr (fun b=>yV v=some b) w w'/\(∀b,yV v'=some b->yV v=some b\/w.heap.size<=b)/\v'.oneCell'=true:=by
 have:TSl P t e (szC c) by_:=⟨hT⟩;have El:=TSl.elem (P:=P) (t:=t) (e:=e) (sz:=szC c) (bytes:=by_);obtain ⟨Ad,cap,news,hv2,g1,g2,g3,g4,g5⟩:=h2;have hn:=g5.len;have hfit:(l1.length+l2.length)*by_<=140737488355328:=Nat.le_trans (Nat.mul_le_mul hl hb) (by decide);have hmax:l1.length+l2.length<=maxLen:=by unfold maxLen;omega
 have hel:Xq κ.R w c (l1++l2) (vs++news):=by
  show All2 _ _ _;rw [JZ];exact All2.append he g5
 rw [hv2];rcases h1.2 with ⟨hl0,A,rfl⟩|⟨g,cp,cur,rfl,k1,k2,k3,k4,k5⟩
 .have hl1:l1=[]:=List.eq_nil_of_length_eq_zero hl0
  have hvs:vs=[]:=List.eq_nil_of_length_eq_zero (by rw [he.len,hl0];simp);subst hl1 hvs;have hf0:Fr (fun b=>yV (.slice A 0 0)=some b) w w:=Fr.refl _ _;have key:∀v' w',(Builtin.append_ #[t,t] ty #[.slice A 0 0,.slice Ad l2.length cap]).run P w=.ok v' w'->w'.ownsRow w.heap.size e (szC c) v' l2.length news->w.grownBy w' none ->
    ∃v' w' vs',(Builtin.append_ #[t,t] ty #[.slice A 0 0,.slice Ad l2.length cap]).run P w=.ok v' w'/\ku w' e (szC c) v' ([]++l2).length vs'/\Xq κ.R w c ([]++l2) vs'/\Fr (fun b=>yV (.slice A 0 0)=some b) w w'/\(∀b,yV v'=some b->yV (.slice A 0 0)=some b\/w.heap.size<=b)/\v'.oneCell'=true:=fun v' w' hr ho hg=>by
   obtain ⟨A',c',hsl,_⟩:=Kit.Qq ho;exact ⟨v',w',news,hr,ku.of ho,g5,(Fr.grown hg fun k hk=>by cases hk),fun b hb=>.inr (ho.lt b (Wi hsl hb)).1,by rw [hsl];rfl⟩
  cases A with
  | none =>
   obtain ⟨v',w',r1,r2,r3,_⟩:=Kit.ze_ El w ty w.heap.size (.slice none 0 0) 0 [] ⟨by simp,.inl ⟨rfl,rfl⟩⟩ Ad l2.length cap w.heap.size news g4 hn g5.one (by simpa using hmax) (by simpa using hfit) (Nat.le_refl _);exact key v' w' r1 (by simpa using r2) r3
  | some a0 =>
   by_cases h0:l2=[]
   .subst h0
    have hnn:news=[]:=List.eq_nil_of_length_eq_zero (by rw [hn];simp);subst hnn;refine ⟨.slice (some a0) 0 0,w,[],?_,⟨by simp,.inl ⟨rfl,_,rfl⟩⟩,.nil,hf0,fun b hb=>.inl hb,rfl⟩;obtain ⟨i,z,hi,hz,hsize,hby,hzs⟩:=El.info;cases Ad with
    | none =>
     rw [g3 rfl];simp [Builtin.append_,run_underlying El.slice,sizeOf,typeInfo,hi,Builtin.lenOf,Builtin.firstCells,storeCells]
    | some ad =>
     have hl0:(loadCells ad 0).run P w=.ok #[] w:=run_loadCells_list (P:=P) w ad [] (fun j v hj=>by simp at hj);simp [Builtin.append_,run_underlying El.slice,sizeOf,typeInfo,hi,Builtin.lenOf,Builtin.firstCells,storeCells,hl0]
   .obtain ⟨v',w',r1,r2,r3⟩:=Kit.za5 El w ty w.heap.size (some a0) 0 w.heap.size [] (Kit.Flat.nil _ _ _) (by simp) Ad l2.length cap w.heap.size news g4 hn (List.length_pos_iff.2 h0) (by simpa using hmax) (by simpa using hfit) (Nat.le_refl _) rfl
    exact key v' w' r1 (by simpa using r2) r3
 .obtain ⟨v',w',r1,r2,r3,r4⟩:=Kit.ze_ El w ty 0 (.slice (some ⟨g,0,none⟩) l1.length (cp+1)) l1.length vs ⟨h1.1,.inr ⟨g,cp+1,cur,rfl,Nat.zero_le _,k1,k2,k3,k4,k5⟩⟩ Ad l2.length cap w.heap.size news g4 hn g5.one hmax hfit (Nat.zero_le _)
  obtain ⟨A',c',hsl,_⟩:=Kit.Qq r2;refine ⟨v',w',vs++news,r1,by rw [List.length_append];exact ku.of r2,hel,Fr.grown r3 fun k hk=>by simpa [Value.ownBlock,yV] using hk,fun b hb=>?_,by rw [hsl];rfl⟩;have hb:=Wi hsl hb;rcases r4 with r4|r4
  .rw [r4] at hb;exact .inl (by simpa [Value.ownBlock,yV] using hb)
  .rw [r4] at hb;cases hb;exact .inr (Nat.le_refl _)
end
end G
end Go.Proofs.YtbijabmjbgplbaaGreatDoor
namespace Go.Proofs.YtbijabmjbgplbaaGreatDoor
open Go.ChangeShapes Go.WideShapes Go.RowKit
namespace G
inductive D where
 | n
 | o (c:EC)
@[reducible] def DT:D->Type
 | .n=>Nat
 | .o c=>T c
structure Dy where
 d:D
 x:DT d
@[reducible] def TT:List D->Type
 | []=>Unit
 | [d]=>DT d
 | d::e::r=>DT d×TT (e::r)
def dys:(l:List D)->TT l->List Dy
 | [],_=>[]
 | [d],x=>[⟨d,x⟩]
 | d::e::r,x=>⟨d,x.1⟩::dys (e::r) x.2
def zjH:(d:D)->Dy->Option (DT d)
 | .n,⟨.n,x⟩=>some x
 | .o c,⟨.o c',x⟩=>if h:c'=c then some (h▸x) else none
 | _,_=>none
theorem zhG {d:D} {y:Dy} {x:DT d} (h:zjH d y=some x):y=⟨d,x⟩:=by
 unfold zjH at h;split at h
 .cases h;rfl
 .split at h
  .rename_i e;subst e;cases h;rfl
  .cases h
 .cases h
def tup:(l:List D)->List Dy->Option (TT l)
 | [],[]=>some ()
 | [d],[y]=>zjH d y
 | d::e::r,y::ys =>
  match zjH d y with
  | some x=>match tup (e::r) ys with
   | some z=>some (x,z)
   | none=>none
  | none=>none
 | _,_=>none
theorem zkK:∀(l:List D) {ys:List Dy} {x:TT l},tup l ys=some x->dys l x=ys
 | [],ys,x,h=>by
  cases ys with
  | nil=>rfl
  | cons _ _=>cases h
 | [d],ys,x,h=>by
  match ys,h with
  | [y],h=>have:=zhG (d:=d) h;subst this;rfl
 | d::e::r,ys,x,h=>by
  cases ys with
  | nil=>cases h
  | cons y ys =>
   unfold tup at h;split at h
   .rename_i z hz
    split at h
    .rename_i w hw
     cases h;have h1:=zhG hz;subst h1;show _::dys (e::r) w=_;rw [zkK (e::r) hw]
    .cases h
   .cases h
inductive KV where
 | ptr|func|map|ifc
 deriving DecidableEq
def KV.v:KV->Value
 | .ptr=>.pointer none
 | .func=>.nilFunc
 | .map=>.map none
 | .ifc=>.nilIface
def KV.is:KV->Value->Bool
 | .ptr,.pointer none=>true
 | .func,.nilFunc=>true
 | .map,.map none=>true
 | .ifc,.nilIface=>true
 | _,_=>false
theorem KV.is_s {k:KV} {v:Value} (h:k.is v=true):v=k.v:=by
 unfold KV.is at h;split at h<;>first|rfl|cases h
inductive L where
 | nat
 | val (c:EC)
 | nn (c:EC)
 | kv (k:KV)
 | nilS
 | num (k:IntKind) (n:Int)
 | lit (b:Bool)
 | row (i:Nat)
 | map (i:Nat)
 | ptr (i off:Nat)
 | elt (i sz o:Nat)
 | un
inductive CS where
 | leaf (s:L)
 | clo (mt:Bool) (f:Nat) (caps:List L)
inductive GS where
 | cell (s:CS)
 | part (c:EC)
inductive SH where
 | one (s:CS)
 | ag (l:List GS)
inductive RS where
 | one (s:SH)
 | tu (l:List SH)
inductive BS where
 | box (l:List GS)
 | row (e:TypeId) (c:EC)
 | mp (k v:EC)
 | cm (l:List (Value×SH))
 | fz (s:L)
 | rd (s:BS)
abbrev Bi:=List (Nat×Nat)
def lk:Bi->Nat->Option Nat
 | [],_=>none
 | (c,a)::b,i=>bif Nat.beq c i then some a else lk b i
def Ext (b b':Bi):Prop:=∀c a,lk b c=some a->lk b' c=some a
theorem Ext.refl (b:Bi):Ext b b:=fun _ _ h=>h
theorem Ext.trans {a b c:Bi} (h:Ext a b) (k:Ext b c):Ext a c:=fun i x hx=>k i x (h i x hx)
def act (n0 bad:Nat) (b:Bi) (c:Nat):Nat:=bif Nat.blt c n0 then c else (lk b c).getD bad
def KA (n0:Nat) (b:Bi) (c a:Nat):Option Bi :=
 bif Nat.blt c n0 then (bif Nat.beq c a then some b else none) else
  match lk b c with
  | some a'=>bif Nat.beq a' a then some b else none
  | none=>some ((c,a)::b)
theorem JD {n0 bad:Nat} {b b':Bi} {c a:Nat} (h:KA n0 b c a=some b'):Ext b b'/\∀bF,Ext b' bF->act n0 bad bF c=a:=by
 unfold KA at h;cases hc:Nat.blt c n0
 .rw [hc,cond_false] at h
  have key:∀{bF},lk bF c=some a->act n0 bad bF c=a:=fun {bF} hl=>by unfold act;rw [hc,cond_false,hl];rfl
  split at h
  .rename_i a' ha
   cases he:Nat.beq a' a
   .rw [he] at h;cases h
   .rw [he,cond_true] at h
    cases h;have:=Nat.eq_of_beq_eq_true he;subst this;exact ⟨Ext.refl _,fun bF hF=>key (hF _ _ ha)⟩
  .rename_i hn
   cases h;refine ⟨fun i x hx=>?_,fun bF hF=>key (hF _ _ (by simp [lk]))⟩;show (bif Nat.beq c i then some a else lk b i)=some x;cases hb:Nat.beq c i
   .exact hx
   .have:=Nat.eq_of_beq_eq_true hb
    subst this;rw [hn] at hx;cases hx
 .rw [hc,cond_true] at h
  cases he:Nat.beq c a
  .rw [he] at h;cases h
  .rw [he] at h
   cases h;exact ⟨Ext.refl _,fun bF _=>by unfold act;rw [hc];exact Nat.eq_of_beq_eq_true he⟩
def L.get0 (n0:Nat):L->XV->Bi->Option (List Dy×Bi)
 | .nat,v,b=>(zbf v).map fun x=>([⟨.n,x⟩],b)
 | .val c,v,b=>(JM c v).map fun x=>([⟨.o c,x⟩],b)
 | .kv k,.v v,b=>bif k.is v then some ([],b) else none
 | .nilS,.nil,b=>some ([],b)
 | .num k n,.z k' n',b=>bif eqK k k'&&decide (n=n') then some ([],b) else none
 | .lit x,.bl y,b=>bif x==y then some ([],b) else none
 | .row i,.own j,b=>(KA n0 b i j).map fun b=>([],b)
 | .map i,.m j,b=>(KA n0 b i j).map fun b=>([],b)
 | .ptr i o,.p j o',b=>bif Nat.beq o o' then (KA n0 b i j).map fun b=>([],b) else none
 | .elt i sz o,.rp j sz' x o',b=>bif Nat.beq sz sz'&&Nat.beq o o' then (KA n0 b i j).map fun b=>([⟨.n,x⟩],b) else none
 | .un,_,b=>some ([],b)
 | _,_,_=>none
def L.fill (g:Nat->Nat):L->List Dy->XV×List Dy
 | .nat,⟨.n,x⟩::r=>(.n x,r)
 | .val _,⟨.o c,x⟩::r=>(xv1 c x,r)
 | .nn _,⟨.o (.sl c),x⟩::r=>(.nl c x,r)
 | .kv k,r=>(.v k.v,r)
 | .nilS,r=>(.nil,r)
 | .num k n,r=>(.z k n,r)
 | .lit b,r=>(.bl b,r)
 | .row i,r=>(.own (g i),r)
 | .map i,r=>(.m (g i),r)
 | .ptr i o,r=>(.p (g i) o,r)
 | .elt i sz o,⟨.n,x⟩::r=>(.rp (g i) sz x o,r)
 | _,r=>(.any,r)
structure Ren (κ κ':Kn) (g1 g2:Nat->Nat):Prop where
 R:κ'.R=κ.R
 w:κ'.w=κ.w
 go:∀c,κ.N (g1 c)->κ'.N (g2 c)/\κ'.ρ (g2 c)=κ.ρ (g1 c)
theorem wJ {κ κ':Kn} (hR:κ'.R=κ.R) (hw:κ'.w=κ.w) {x:XV} {v:Value} {f:FV} (hp:plain x=some f) (h:RepX κ x v):RepX κ' x v:=by
 rw [vU hp] at h ⊢;rw [hR,hw];exact h
theorem zjk (c:EC) (x:T c):(∃f,plain (xv1 c x)=some f)\/xv1 c x=.any:=by
 cases c<;>first|exact .inl ⟨_,rfl⟩|exact .inr rfl
section
variable {κ κ':Kn} {g1 g2:Nat->Nat} {H:Nat->Option XB} {n0 bad:Nat}
theorem L.xg (h:Ren κ κ' g1 g2) (s:L) (ds:List Dy):(s.fill g1 ds).2=(s.fill g2 ds).2/\∀v,RepX κ (s.fill g1 ds).1 v->RepX κ' (s.fill g2 ds).1 v:=by
 unfold L.fill;split<;>refine ⟨rfl,fun v hr=>?_⟩
 .exact wJ h.R h.w rfl hr
 .rename_i c' c x r
  rcases zjk c x with ⟨f,hf⟩|hf
  .exact wJ h.R h.w hf hr
  .rw [hf];exact trivial
 .exact ⟨by rw [h.R,h.w];exact hr.1,hr.2⟩
 .exact wJ h.R h.w rfl hr
 .exact wJ h.R h.w rfl hr
 .exact wJ h.R h.w rfl hr
 .exact wJ h.R h.w rfl hr
 .obtain ⟨h1,h2,h3⟩:=hr
  obtain ⟨k1,k2⟩:=h.go _ h1;exact ⟨k1,h2.trans k2.symm,h3⟩
 .obtain ⟨h1,h2,h3⟩:=hr
  obtain ⟨k1,k2⟩:=h.go _ h1;exact ⟨k1,h2.trans k2.symm,h3⟩
 .obtain ⟨h1,b,h2,h3⟩:=hr
  obtain ⟨k1,k2⟩:=h.go _ h1;exact ⟨k1,b,k2.trans h2,h3⟩
 .obtain ⟨h1,b,h2,h3⟩:=hr
  obtain ⟨k1,k2⟩:=h.go _ h1;exact ⟨k1,b,by rw [k2];exact h2,h3⟩
 .exact trivial
structure Got (κ:Kn) (n0 bad:Nat) (b b':Bi) (f:(Nat->Nat)->List Dy->Prop) (ds:List Dy):Prop where
 ext:Ext b b'
 go:∀bF,Ext b' bF->∀r,f (act n0 bad bF) (ds++r)
theorem L.zeW {s:L} {x:XV} {b b':Bi} {ds:List Dy} (h:s.get0 n0 x b=some (ds,b')) {v:Value} (hr:RepX κ x v):Ext b b'/\∀bF,Ext b' bF->∀r,(s.fill (act n0 bad bF) (ds++r)).2=r/\RepX κ (s.fill (act n0 bad bF) (ds++r)).1 v:=by
 unfold L.get0 at h;split at h
 .obtain ⟨n,hn,h⟩:=Option.map_eq_some_iff.1 h
  cases h;exact ⟨Ext.refl _,fun bF _ r=>⟨rfl,(vU (x:=.n n) rfl).2 ((vU (KR hn)).1 hr)⟩⟩
 .obtain ⟨y,hy,h⟩:=Option.map_eq_some_iff.1 h
  cases h;exact ⟨Ext.refl _,fun bF _ r=>⟨rfl,VF hy hr⟩⟩
 .rename_i b0 k w
  cases hk:k.is w
  .rw [hk] at h;cases h
  .rw [hk] at h
   cases h;have:=KV.is_s hk;subst this;exact ⟨Ext.refl _,fun bF _ r=>⟨rfl,hr⟩⟩
 .cases h
  exact ⟨Ext.refl _,fun bF _ r=>⟨rfl,hr⟩⟩
 .rename_i b0 k n k' n'
  cases hk:(eqK k k'&&decide (n=n'))
  .rw [hk] at h;cases h
  .rw [hk] at h
   cases h;rw [Bool.and_eq_true] at hk;have e1:k=k':=of_decide_eq_true hk.1;have e2:n=n':=of_decide_eq_true hk.2;subst e1 e2;exact ⟨Ext.refl _,fun bF _ r=>⟨rfl,hr⟩⟩
 .rename_i b0 x y
  cases hk:(x==y)
  .rw [hk] at h;cases h
  .rw [hk] at h
   cases h;have:x=y:=by simpa using hk
   subst this;exact ⟨Ext.refl _,fun bF _ r=>⟨rfl,hr⟩⟩
 .obtain ⟨b2,hb,h⟩:=Option.map_eq_some_iff.1 h
  cases h;obtain ⟨h1,h2⟩:=JD (bad:=bad) hb;exact ⟨h1,fun bF hF r=>⟨rfl,by show RepX κ (.own _) v;rw [h2 bF hF];exact hr⟩⟩
 .obtain ⟨b2,hb,h⟩:=Option.map_eq_some_iff.1 h
  cases h;obtain ⟨h1,h2⟩:=JD (bad:=bad) hb;exact ⟨h1,fun bF hF r=>⟨rfl,by show RepX κ (.m _) v;rw [h2 bF hF];exact hr⟩⟩
 .rename_i b0 i o j o'
  cases hk:Nat.beq o o'
  .rw [hk] at h;cases h
  .rw [hk,cond_true] at h
   have:=Nat.eq_of_beq_eq_true hk;subst this;obtain ⟨b2,hb,h⟩:=Option.map_eq_some_iff.1 h;cases h;obtain ⟨h1,h2⟩:=JD (bad:=bad) hb;exact ⟨h1,fun bF hF r=>⟨rfl,by show RepX κ (.p _ _) v;rw [h2 bF hF];exact hr⟩⟩
 .rename_i b0 i sz o j sz' y o'
  cases hk:(Nat.beq sz sz'&&Nat.beq o o')
  .rw [hk] at h;cases h
  .rw [hk,cond_true] at h
   rw [Bool.and_eq_true] at hk;have e1:=Nat.eq_of_beq_eq_true hk.1;have e2:=Nat.eq_of_beq_eq_true hk.2;subst e1 e2;obtain ⟨b2,hb,h⟩:=Option.map_eq_some_iff.1 h;cases h;obtain ⟨h1,h2⟩:=JD (bad:=bad) hb;exact ⟨h1,fun bF hF r=>⟨rfl,by show RepX κ (.rp _ _ _ _) v;rw [h2 bF hF];exact hr⟩⟩
 .cases h
  exact ⟨Ext.refl _,fun bF _ r=>⟨rfl,trivial⟩⟩
 .cases h
def L.get (n0:Nat) (H:Nat->Option XB) (s:L) (x:XV) (b:Bi):Option (List Dy×Bi):=s.get0 n0 (rs H x) b
def both {α:Type} (o:Option (List Dy×Bi)) (f:Bi->Option (List Dy×Bi)):Option (List Dy×Bi) :=
 match o with
 | some (ds,b)=>match f b with
  | some (es,b')=>some (ds++es,b')
  | none=>none
 | none=>none
theorem zcm {o:Option (List Dy×Bi)} {f:Bi->Option (List Dy×Bi)} {ds:List Dy} {b':Bi} (h:both (α:=Unit) o f=some (ds,b')):∃d1 b1 d2,o=some (d1,b1)/\f b1=some (d2,b')/\ds=d1++d2:=by
 unfold both at h;split at h
 .split at h
  .rename_i hf;cases h;exact ⟨_,_,_,rfl,hf,rfl⟩
  .cases h
 .cases h
def Ls.get (n0:Nat) (H:Nat->Option XB):List L->List XV->Bi->Option (List Dy×Bi)
 | [],[],b=>some ([],b)
 | s::ss,x::xs,b=>both (α:=Unit) (s.get n0 H x b) fun b=>Ls.get n0 H ss xs b
 | _,_,_=>none
def Ls.fill (g:Nat->Nat):List L->List Dy->List XV×List Dy
 | [],r=>([],r)
 | s::ss,r=>let a:=s.fill g r;let c:=Ls.fill g ss a.2;(a.1::c.1,c.2)
theorem Ls.xg (h:Ren κ κ' g1 g2):∀(ss:List L) (ds:List Dy),(Ls.fill g1 ss ds).2=(Ls.fill g2 ss ds).2/\∀vs,All2 (RepX κ) (Ls.fill g1 ss ds).1 vs->All2 (RepX κ') (Ls.fill g2 ss ds).1 vs
 | [],ds=>⟨rfl,fun vs hr=>by cases hr;exact .nil⟩
 | s::ss,ds=>by
  obtain ⟨h1,h2⟩:=L.xg h s ds;obtain ⟨h3,h4⟩:=Ls.xg h ss (s.fill g2 ds).2;unfold Ls.fill;simp only;rw [h1];refine ⟨h3,fun vs hr=>?_⟩;cases hr with
  | cons a t=>exact .cons (h2 _ a) (h4 _ t)
theorem Ls.jw (hH:HOk κ H):∀{ss:List L} {xs:List XV} {b b':Bi} {ds:List Dy},Ls.get n0 H ss xs b=some (ds,b')->∀{vs:List Value},All2 (RepX κ) xs vs->Ext b b'/\∀bF,Ext b' bF->∀r,(Ls.fill (act n0 bad bF) ss (ds++r)).2=r/\All2 (RepX κ) (Ls.fill (act n0 bad bF) ss (ds++r)).1 vs
 | [],xs,b,b',ds,h,vs,hr=>by
  cases xs with
  | cons _ _=>cases h
  | nil=>cases h;cases hr;exact ⟨Ext.refl _,fun bF _ r=>⟨rfl,.nil⟩⟩
 | s::ss,xs,b,b',ds,h,vs,hr=>by
  cases xs with
  | nil=>cases h
  | cons x xs =>
   obtain ⟨d1,b1,d2,h1,h2,rfl⟩:=zcm h;cases hr with
   | cons a t =>
    obtain ⟨e1,g1⟩:=L.zeW (bad:=bad) h1 (zed hH a);obtain ⟨e2,g2⟩:=Ls.jw hH h2 t;refine ⟨e1.trans e2,fun bF hF r=>?_⟩;obtain ⟨k1,k2⟩:=g1 bF (e2.trans hF) (d2++r);obtain ⟨k3,k4⟩:=g2 bF hF r;unfold Ls.fill;simp only;rw [List.append_assoc,k1];exact ⟨k3,.cons k2 k4⟩
def CS.get (n0:Nat) (H:Nat->Option XB):CS->XV->Bi->Option (List Dy×Bi)
 | .leaf s,x,b=>s.get n0 H x b
 | .clo mt f ss,.fn mt' f' xs,b=>bif (mt==mt')&&Nat.beq f f' then Ls.get n0 H ss xs b else none
 | _,_,_=>none
def CS.fill (g:Nat->Nat):CS->List Dy->XV×List Dy
 | .leaf s,r=>s.fill g r
 | .clo mt f ss,r=>let a:=Ls.fill g ss r;(.fn mt f a.1,a.2)
theorem CS.xg (h:Ren κ κ' g1 g2) (s:CS) (ds:List Dy):(s.fill g1 ds).2=(s.fill g2 ds).2/\∀v,RepX κ (s.fill g1 ds).1 v->RepX κ' (s.fill g2 ds).1 v:=by
 cases s with
 | leaf s=>exact L.xg h s ds
 | clo mt f ss =>
  obtain ⟨h1,h2⟩:=Ls.xg h ss ds;exact ⟨h1,fun v ⟨vs,e,hr⟩=>⟨vs,e,Wu.2 (h2 vs (Wu.1 hr))⟩⟩
theorem CS.jw (hH:HOk κ H) {s:CS} {x:XV} {b b':Bi} {ds:List Dy} (h:s.get n0 H x b=some (ds,b')) {v:Value} (hr:RepX κ x v):Ext b b'/\∀bF,Ext b' bF->∀r,(s.fill (act n0 bad bF) (ds++r)).2=r/\RepX κ (s.fill (act n0 bad bF) (ds++r)).1 v:=by
 unfold CS.get at h;split at h
 .exact L.zeW (bad:=bad) h (zed hH hr)
 .rename_i b0 mt f ss mt' f' xs
  cases hk:((mt==mt')&&Nat.beq f f')
  .rw [hk] at h;cases h
  .rw [hk,cond_true] at h
   rw [Bool.and_eq_true] at hk;have e1:mt=mt':=by simpa using hk.1
   have e2:=Nat.eq_of_beq_eq_true hk.2;subst e1 e2;obtain ⟨vs,e,hr⟩:=hr;obtain ⟨e1,h1⟩:=Ls.jw (bad:=bad) hH h (Wu.1 hr);exact ⟨e1,fun bF hF r=>⟨(h1 bF hF r).1,vs,e,Wu.2 (h1 bF hF r).2⟩⟩
 .cases h
def GS.get (n0:Nat) (H:Nat->Option XB):List GS->List XV->Bi->Option (List Dy×Bi)
 | [],[],b=>some ([],b)
 | .cell s::ss,x::xs,b=>both (α:=Unit) (s.get n0 H x b) fun b=>GS.get n0 H ss xs b
 | .part c::ss,xs,b =>
  match mk c ((xs.take (szC c)).map (rs H)) with
  | some y=>both (α:=Unit) (some ([⟨.o c,y⟩],b)) fun b=>GS.get n0 H ss (xs.drop (szC c)) b
  | none=>none
 | _,_,_=>none
def GS.fill (g:Nat->Nat):List GS->List Dy->List XV×List Dy
 | [],r=>([],r)
 | .cell s::ss,r=>let a:=s.fill g r;let c:=GS.fill g ss a.2;(a.1::c.1,c.2)
 | .part _::ss,⟨.o c,x⟩::r=>let a:=GS.fill g ss r;(cells c x++a.1,a.2)
 | .part _::_,r=>([],r)
theorem zhH (hR:κ'.R=κ.R) (hw:κ'.w=κ.w) {c:EC} {x:T c} {vs:List Value} (h:All2 (RepX κ) (cells c x) vs):All2 (RepX κ') (cells c x) vs:=by
 refine (uo (qY c x)).2 ?_;rw [hR,hw];exact (uo (qY c x)).1 h
theorem All2.split {α β:Type} {Q:α->β->Prop}:∀{xs ys:List α} {vs:List β},All2 Q (xs++ys) vs->∃us ws,vs=us++ws/\All2 Q xs us/\All2 Q ys ws
 | [],ys,vs,h=>⟨[],vs,rfl,.nil,h⟩
 | x::xs,ys,vs,h=>by
  cases h with
  | cons a t =>
   obtain ⟨us,ws,e,h1,h2⟩:=All2.split t;exact ⟨_::us,ws,by rw [e];rfl,.cons a h1,h2⟩
theorem GS.xg (h:Ren κ κ' g1 g2):∀(ss:List GS) (ds:List Dy),(GS.fill g1 ss ds).2=(GS.fill g2 ss ds).2/\∀vs,All2 (RepX κ) (GS.fill g1 ss ds).1 vs->All2 (RepX κ') (GS.fill g2 ss ds).1 vs
 | [],ds=>⟨rfl,fun vs hr=>by cases hr;exact .nil⟩
 | .cell s::ss,ds=>by
  obtain ⟨h1,h2⟩:=CS.xg h s ds;obtain ⟨h3,h4⟩:=GS.xg h ss (s.fill g2 ds).2;unfold GS.fill;simp only;rw [h1];refine ⟨h3,fun vs hr=>?_⟩;cases hr with
  | cons a t=>exact .cons (h2 _ a) (h4 _ t)
 | .part c::ss,[]=>⟨rfl,fun vs hr=>by cases hr;exact .nil⟩
 | .part c::ss,⟨.n,x⟩::ds=>⟨rfl,fun vs hr=>by cases hr;exact .nil⟩
 | .part _::ss,⟨.o c,x⟩::ds=>by
  obtain ⟨h3,h4⟩:=GS.xg h ss ds;refine ⟨h3,fun vs hr=>?_⟩;obtain ⟨us,ws,e,k1,k2⟩:=All2.split (show All2 (RepX κ) (cells c x++(GS.fill g1 ss ds).1) vs from hr);subst e;exact (zhH h.R h.w k1).append (h4 _ k2)
theorem GS.jw (hH:HOk κ H):∀{ss:List GS} {xs:List XV} {b b':Bi} {ds:List Dy},GS.get n0 H ss xs b=some (ds,b')->∀{vs:List Value},All2 (RepX κ) xs vs->Ext b b'/\∀bF,Ext b' bF->∀r,(GS.fill (act n0 bad bF) ss (ds++r)).2=r/\All2 (RepX κ) (GS.fill (act n0 bad bF) ss (ds++r)).1 vs
 | [],xs,b,b',ds,h,vs,hr=>by
  cases xs with
  | cons _ _=>cases h
  | nil=>cases h;cases hr;exact ⟨Ext.refl _,fun bF _ r=>⟨rfl,.nil⟩⟩
 | .cell s::ss,xs,b,b',ds,h,vs,hr=>by
  cases xs with
  | nil=>cases h
  | cons x xs =>
   obtain ⟨d1,b1,d2,h1,h2,rfl⟩:=zcm h;cases hr with
   | cons a t =>
    obtain ⟨e1,g1⟩:=CS.jw (bad:=bad) hH h1 a;obtain ⟨e2,g2⟩:=GS.jw hH h2 t;refine ⟨e1.trans e2,fun bF hF r=>?_⟩;obtain ⟨k1,k2⟩:=g1 bF (e2.trans hF) (d2++r);obtain ⟨k3,k4⟩:=g2 bF hF r;unfold GS.fill;simp only;rw [List.append_assoc,k1];exact ⟨k3,.cons k2 k4⟩
 | .part c::ss,xs,b,b',ds,h,vs,hr=>by
  unfold GS.get at h;split at h
  .rename_i y hy
   obtain ⟨d1,b1,d2,h1,h2,rfl⟩:=zcm h;cases h1;obtain ⟨e2,g2⟩:=GS.jw hH h2 (hr.drop (szC c));refine ⟨e2,fun bF hF r=>?_⟩;obtain ⟨k3,k4⟩:=g2 bF hF r;have k5:=zbS hy (zb1 hH (hr.take (szC c)));refine ⟨k3,?_⟩;have:=k5.append k4;rwa [List.take_append_drop] at this
  .cases h
def SH.get (n0:Nat) (H:Nat->Option XB):SH->XA->Bi->Option (List Dy×Bi)
 | .one s,.one x,b=>s.get n0 H x b
 | .ag l,.ag cs,b=>GS.get n0 H l cs b
 | _,_,_=>none
def SH.fill (g:Nat->Nat):SH->List Dy->X1×List Dy
 | .one s,r=>let a:=s.fill g r;(.one a.1,a.2)
 | .ag l,r=>let a:=GS.fill g l r;(.ag a.1,a.2)
theorem SH.xg (h:Ren κ κ' g1 g2) (s:SH) (ds:List Dy):(s.fill g1 ds).2=(s.fill g2 ds).2/\∀v,Rep1 κ (s.fill g1 ds).1 v->Rep1 κ' (s.fill g2 ds).1 v:=by
 cases s with
 | one s=>exact CS.xg h s ds
 | ag l =>
  obtain ⟨h1,h2⟩:=GS.xg h l ds;exact ⟨h1,fun v ⟨vs,e,hr⟩=>⟨vs,e,h2 vs hr⟩⟩
theorem SH.jw (hH:HOk κ H) {s:SH} {x:XA} {b b':Bi} {ds:List Dy} (h:s.get n0 H x b=some (ds,b')) {v:Value} (hr:RepA κ x v):Ext b b'/\∀bF,Ext b' bF->∀r,(s.fill (act n0 bad bF) (ds++r)).2=r/\Rep1 κ (s.fill (act n0 bad bF) (ds++r)).1 v:=by
 unfold SH.get at h;split at h
 .exact CS.jw hH h hr
 .obtain ⟨vs,e,hr⟩:=hr
  obtain ⟨e1,h1⟩:=GS.jw (bad:=bad) hH h hr;exact ⟨e1,fun bF hF r=>⟨(h1 bF hF r).1,vs,e,(h1 bF hF r).2⟩⟩
 .cases h
def SHs.get (n0:Nat) (H:Nat->Option XB):List SH->List XA->Bi->Option (List Dy×Bi)
 | [],[],b=>some ([],b)
 | s::ss,x::xs,b=>both (α:=Unit) (s.get n0 H x b) fun b=>SHs.get n0 H ss xs b
 | _,_,_=>none
def SHs.fill (g:Nat->Nat):List SH->List Dy->List X1×List Dy
 | [],r=>([],r)
 | s::ss,r=>let a:=s.fill g r;let c:=SHs.fill g ss a.2;(a.1::c.1,c.2)
theorem SHs.xg (h:Ren κ κ' g1 g2):∀(ss:List SH) (ds:List Dy),(SHs.fill g1 ss ds).2=(SHs.fill g2 ss ds).2/\∀vs,All2 (Rep1 κ) (SHs.fill g1 ss ds).1 vs->All2 (Rep1 κ') (SHs.fill g2 ss ds).1 vs
 | [],ds=>⟨rfl,fun vs hr=>by cases hr;exact .nil⟩
 | s::ss,ds=>by
  obtain ⟨h1,h2⟩:=SH.xg h s ds;obtain ⟨h3,h4⟩:=SHs.xg h ss (s.fill g2 ds).2;unfold SHs.fill;simp only;rw [h1];refine ⟨h3,fun vs hr=>?_⟩;cases hr with
  | cons a t=>exact .cons (h2 _ a) (h4 _ t)
theorem SHs.jw (hH:HOk κ H):∀{ss:List SH} {xs:List XA} {b b':Bi} {ds:List Dy},SHs.get n0 H ss xs b=some (ds,b')->∀{vs:List Value},All2 (RepA κ) xs vs->Ext b b'/\∀bF,Ext b' bF->∀r,(SHs.fill (act n0 bad bF) ss (ds++r)).2=r/\All2 (Rep1 κ) (SHs.fill (act n0 bad bF) ss (ds++r)).1 vs
 | [],xs,b,b',ds,h,vs,hr=>by
  cases xs with
  | cons _ _=>cases h
  | nil=>cases h;cases hr;exact ⟨Ext.refl _,fun bF _ r=>⟨rfl,.nil⟩⟩
 | s::ss,xs,b,b',ds,h,vs,hr=>by
  cases xs with
  | nil=>cases h
  | cons x xs =>
   obtain ⟨d1,b1,d2,h1,h2,rfl⟩:=zcm h;cases hr with
   | cons a t =>
    obtain ⟨e1,g1⟩:=SH.jw (bad:=bad) hH h1 a;obtain ⟨e2,g2⟩:=SHs.jw hH h2 t;refine ⟨e1.trans e2,fun bF hF r=>?_⟩;obtain ⟨k1,k2⟩:=g1 bF (e2.trans hF) (d2++r);obtain ⟨k3,k4⟩:=g2 bF hF r;unfold SHs.fill;simp only;rw [List.append_assoc,k1];exact ⟨k3,.cons k2 k4⟩
def RS.get (n0:Nat) (H:Nat->Option XB):RS->XA->Bi->Option (List Dy×Bi)
 | .one s,x,b=>s.get n0 H x b
 | .tu ss,.tu l,b=>SHs.get n0 H ss (l.map X1.xa) b
 | _,_,_=>none
def RS.fill (g:Nat->Nat):RS->List Dy->XA×List Dy
 | .one s,r=>let a:=s.fill g r;(a.1.xa,a.2)
 | .tu ss,r=>let a:=SHs.fill g ss r;(.tu a.1,a.2)
theorem RS.xg (h:Ren κ κ' g1 g2) (s:RS) (ds:List Dy):(s.fill g1 ds).2=(s.fill g2 ds).2/\∀v,RepA κ (s.fill g1 ds).1 v->RepA κ' (s.fill g2 ds).1 v:=by
 cases s with
 | one s =>
  obtain ⟨h1,h2⟩:=SH.xg h s ds;exact ⟨h1,fun v hr=>UY.2 (h2 v (UY.1 hr))⟩
 | tu l =>
  obtain ⟨h1,h2⟩:=SHs.xg h l ds;exact ⟨h1,fun v ⟨vs,e,hr⟩=>⟨vs,e,h2 vs hr⟩⟩
theorem zaj {α β γ:Type} {Q:α->β->Prop} {f:γ->α}:∀{xs:List γ} {vs:List β},All2 Q (xs.map f) vs↔All2 (fun x v=>Q (f x) v) xs vs
 | [],vs=>⟨fun h=>by cases h;exact .nil,fun h=>by cases h;exact .nil⟩
 | x::xs,vs=>⟨fun h=>by cases h with|cons a t=>exact .cons a (zaj.1 t),fun h=>by cases h with|cons a t=>exact .cons a (zaj.2 t)⟩
theorem RS.jw (hH:HOk κ H) {s:RS} {x:XA} {b b':Bi} {ds:List Dy} (h:s.get n0 H x b=some (ds,b')) {v:Value} (hr:RepA κ x v):Ext b b'/\∀bF,Ext b' bF->∀r,(s.fill (act n0 bad bF) (ds++r)).2=r/\RepA κ (s.fill (act n0 bad bF) (ds++r)).1 v:=by
 unfold RS.get at h;split at h
 .obtain ⟨e1,h1⟩:=SH.jw (bad:=bad) hH h hr
  exact ⟨e1,fun bF hF r=>⟨(h1 bF hF r).1,UY.2 (h1 bF hF r).2⟩⟩
 .obtain ⟨vs,e,hr⟩:=hr
  obtain ⟨e1,h1⟩:=SHs.jw (bad:=bad) hH h (zaj.2 (hr.imp fun _ _ k=>UY.2 k));exact ⟨e1,fun bF hF r=>⟨(h1 bF hF r).1,vs,e,(h1 bF hF r).2⟩⟩
 .cases h
def CMs.get (n0:Nat) (H:Nat->Option XB):List (Value×SH)->List (Value×X1)->Bi->Option (List Dy×Bi)
 | [],[],b=>some ([],b)
 | s::ss,x::xs,b=>bif keyEq s.1 x.1 then both (α:=Unit) (s.2.get n0 H x.2.xa b) fun b=>CMs.get n0 H ss xs b else none
 | _,_,_=>none
where keyEq:Value->Value->Bool
 | .int k n,.int k' n'=>eqK k k'&&decide (n=n')
 | .string a,.string b=>decide (a.data.toList=b.data.toList)
 | _,_=>false
def CMs.fill (g:Nat->Nat):List (Value×SH)->List Dy->List (Value×X1)×List Dy
 | [],r=>([],r)
 | s::ss,r=>let a:=s.2.fill g r;let c:=CMs.fill g ss a.2;((s.1,a.1)::c.1,c.2)
theorem zmm {a b:Value} (h:CMs.get.keyEq a b=true):a=b:=by
 unfold CMs.get.keyEq at h;split at h
 .rw [Bool.and_eq_true] at h
  have e1:=of_decide_eq_true h.1;have e2:=of_decide_eq_true h.2;rw [e1,e2]
 .have:=of_decide_eq_true h
  congr 1
  apply ByteArray.ext;exact Array.ext' this
 .cases h
def BS.get (n0:Nat) (H:Nat->Option XB):BS->XB->Bi->Option (List Dy×Bi)
 | .box l,.box cs,b=>GS.get n0 H l cs b
 | .row e _,.row e' c l,b=>bif Nat.beq e e' then some ([⟨.o (.sl c),l⟩],b) else none
 | .mp _ _,.mp k v l,b=>some ([⟨.o (.mp k v),l⟩],b)
 | .cm l,.cm xs,b=>CMs.get n0 H l xs b
 | .fz s,.fz x,b=>s.get0 n0 x b
 | .rd s,.rd x,b=>s.get n0 H x b
 | .rd s,x,b=>bif x.own then s.get n0 H x b else none
 | _,_,_=>none
def BS.fill (g:Nat->Nat):BS->List Dy->Option XB×List Dy
 | .box l,r=>let a:=GS.fill g l r;(some (.box a.1),a.2)
 | .row e _,⟨.o (.sl c),l⟩::r=>(some (.row e c l),r)
 | .mp _ _,⟨.o (.mp k v),l⟩::r=>(some (.mp k v l),r)
 | .cm l,r=>let a:=CMs.fill g l r;(some (.cm a.1),a.2)
 | .fz s,r=>let a:=s.fill g r;(some (.fz a.1),a.2)
 | .rd s,r=>let a:=s.fill g r;(a.1.map .rd,a.2)
 | _,r=>(none,r)
theorem CMs.xg (h:Ren κ κ' g1 g2):∀(ss:List (Value×SH)) (ds:List Dy),(CMs.fill g1 ss ds).2=(CMs.fill g2 ss ds).2/\∀es:List MapEntry,All2 (fun x e=>e.key=x.1/\Rep1 κ x.2 e.val) (CMs.fill g1 ss ds).1 es->All2 (fun x e=>e.key=x.1/\Rep1 κ' x.2 e.val) (CMs.fill g2 ss ds).1 es
 | [],ds=>⟨rfl,fun vs hr=>by cases hr;exact .nil⟩
 | s::ss,ds=>by
  obtain ⟨h1,h2⟩:=SH.xg h s.2 ds;obtain ⟨h3,h4⟩:=CMs.xg h ss (s.2.fill g2 ds).2;unfold CMs.fill;simp only;rw [h1];refine ⟨h3,fun vs hr=>?_⟩;cases hr with
  | cons a t=>exact .cons ⟨a.1,h2 _ a.2⟩ (h4 _ t)
theorem CMs.jw (hH:HOk κ H):∀{ss:List (Value×SH)} {xs:List (Value×X1)} {b b':Bi} {ds:List Dy},CMs.get n0 H ss xs b=some (ds,b')->∀{es:List MapEntry},All2 (fun x e=>e.key=x.1/\Rep1 κ x.2 e.val) xs es ->
  Ext b b'/\∀bF,Ext b' bF->∀r,(CMs.fill (act n0 bad bF) ss (ds++r)).2=r/\All2 (fun x e=>e.key=x.1/\Rep1 κ x.2 e.val) (CMs.fill (act n0 bad bF) ss (ds++r)).1 es
 | [],xs,b,b',ds,h,vs,hr=>by
  cases xs with
  | cons _ _=>cases h
  | nil=>cases h;cases hr;exact ⟨Ext.refl _,fun bF _ r=>⟨rfl,.nil⟩⟩
 | s::ss,xs,b,b',ds,h,vs,hr=>by
  cases xs with
  | nil=>cases h
  | cons x xs =>
   unfold CMs.get at h;cases hk:CMs.get.keyEq s.1 x.1
   .rw [hk] at h;cases h
   .rw [hk,cond_true] at h
    have hk:=zmm hk;obtain ⟨d1,b1,d2,h1,h2,rfl⟩:=zcm h;cases hr with
    | cons a t =>
     obtain ⟨e1,g1⟩:=SH.jw (bad:=bad) hH h1 (UY.2 a.2);obtain ⟨e2,g2⟩:=CMs.jw hH h2 t;refine ⟨e1.trans e2,fun bF hF r=>?_⟩;obtain ⟨k1,k2⟩:=g1 bF (e2.trans hF) (d2++r);obtain ⟨k3,k4⟩:=g2 bF hF r;unfold CMs.fill;simp only;rw [List.append_assoc,k1];exact ⟨k3,.cons ⟨a.1.trans hk.symm,k2⟩ k4⟩
theorem BS.xg (h:Ren κ κ' g1 g2) {c a:Nat} (hρ:κ'.ρ c=κ.ρ a):∀(s:BS) (ds:List Dy),(s.fill g1 ds).2=(s.fill g2 ds).2/\∀x,(s.fill g1 ds).1=some x->uO κ a x->∃y,(s.fill g2 ds).1=some y/\(y.own=true->x.own=true)/\(y.live=true->x.live=true)/\uO κ' c y
 | .rd s,ds=>by
  obtain ⟨h1,h2⟩:=BS.xg h hρ s ds;refine ⟨h1,fun x hx hr=>?_⟩;obtain ⟨x0,k1,rfl⟩:=Option.map_eq_some_iff.1 (show Option.map XB.rd (s.fill g1 ds).1=some x from hx);obtain ⟨y,k2,k3,k4,k5⟩:=h2 x0 k1 hr;exact ⟨.rd y,by show Option.map XB.rd (s.fill g2 ds).1=_;rw [k2];rfl,nofun,k4,k5⟩
 | .box l,ds=>by
  obtain ⟨h1,h2⟩:=GS.xg h l ds;refine ⟨h1,fun x hx hr=>?_⟩;cases hx;obtain ⟨b,vs,t,k1,k2,k3⟩:=hr;exact ⟨_,rfl,fun _=>rfl,fun _=>rfl,b,vs,t,hρ.trans k1,by rw [h.w];exact k2,h2 _ k3⟩
 | .row e c0,[]=>⟨rfl,fun x hx=>by cases hx⟩
 | .row e c0,⟨.n,_⟩::_=>⟨rfl,fun x hx=>by cases hx⟩
 | .row e c0,⟨.o c,l⟩::r=>by
  cases c with
  | sl c =>
   refine ⟨rfl,fun x hx hr=>⟨x,hx,fun h=>h,fun h=>h,?_⟩⟩;cases hx;obtain ⟨vs,k1,k2⟩:=hr;refine ⟨vs,by rw [hρ,h.w];exact k1,?_⟩;rw [h.R,h.w];exact k2
  | _=>exact ⟨rfl,fun x hx=>by cases hx⟩
 | .mp k0 v0,[]=>⟨rfl,fun x hx=>by cases hx⟩
 | .mp k0 v0,⟨.n,_⟩::_=>⟨rfl,fun x hx=>by cases hx⟩
 | .mp k0 v0,⟨.o c,l⟩::r=>by
  cases c with
  | mp k v =>
   refine ⟨rfl,fun x hx hr=>⟨x,hx,fun h=>h,fun h=>h,?_⟩⟩;cases hx;obtain ⟨b,es,cl,k1,k2,k3⟩:=hr;exact ⟨b,es,cl,hρ.trans k1,by rw [h.w];exact k2,k3⟩
  | _=>exact ⟨rfl,fun x hx=>by cases hx⟩
 | .cm l,ds=>by
  obtain ⟨h1,h2⟩:=CMs.xg h l ds;refine ⟨h1,fun x hx hr=>?_⟩;cases hx;obtain ⟨b,es,cl,k1,k2,k3⟩:=hr;exact ⟨_,rfl,fun _=>rfl,fun _=>rfl,b,es,cl,hρ.trans k1,by rw [h.w];exact k2,h2 _ k3⟩
 | .fz s,ds=>by
  obtain ⟨h1,h2⟩:=L.xg h s ds;refine ⟨h1,fun x hx hr=>?_⟩;cases hx;refine ⟨_,rfl,fun h=>h,fun h=>h,?_⟩;show RepX κ' _ (κ'.ρ c);rw [hρ];exact h2 _ hr
theorem BS.jw (hH:HOk κ H) {a:Nat}:∀{s:BS} {x:XB} {b b':Bi} {ds:List Dy},s.get n0 H x b=some (ds,b')->uO κ a x->Ext b b'/\∀bF,Ext b' bF->∀r,(s.fill (act n0 bad bF) (ds++r)).2=r/\∃y,(s.fill (act n0 bad bF) (ds++r)).1=some y/\(y.own=true->x.own=true)/\(y.live=true->x.live=true)/\uO κ a y
 | .rd s,x,b,b',ds,h,hr=>by
  have key:∀{x0:XB},s.get n0 H x0 b=some (ds,b')->uO κ a x0->(x0.live=true->x.live=true)->Ext b b'/\∀bF,Ext b' bF->∀r,(BS.fill (act n0 bad bF) (.rd s) (ds++r)).2=r/\∃y,(BS.fill (act n0 bad bF) (.rd s) (ds++r)).1=some y/\(y.own=true->x.own=true)/\(y.live=true->x.live=true)/\uO κ a y:=fun {x0} h hr hl=>by
   obtain ⟨h1,h2⟩:=BS.jw hH h hr;refine ⟨h1,fun bF hF r=>?_⟩;obtain ⟨h3,y,h4,h5,h6,h7⟩:=h2 bF hF r;exact ⟨h3,.rd y,by show Option.map XB.rd _=_;rw [h4];rfl,nofun,fun h=>hl (h6 h),h7⟩
  have other:(bif x.own then s.get n0 H x b else none)=some (ds,b')->s.get n0 H x b=some (ds,b'):=fun h=>by
   cases ho:x.own<;>rw [ho] at h
   .cases h
   .exact h
  cases x with
  | rd x0=>exact key h hr fun h=>h
  | _=>exact key (other h) hr fun h=>h
 | .box l,x,b,b',ds,h,hr=>by
  cases x with
  | box cs =>
   obtain ⟨g,vs,t,k1,k2,k3⟩:=hr;obtain ⟨e1,h1⟩:=GS.jw (bad:=bad) hH h k3;exact ⟨e1,fun bF hF r=>⟨(h1 bF hF r).1,_,rfl,fun _=>rfl,fun _=>rfl,g,vs,t,k1,k2,(h1 bF hF r).2⟩⟩
  | _=>cases h
 | .row e _,x,b,b',ds,h,hr=>by
  cases x with
  | row e' c l =>
   have h:(bif Nat.beq e e' then some ([⟨.o (.sl c),l⟩],b) else none)=some (ds,b'):=h;cases hk:Nat.beq e e'
   .rw [hk] at h;cases h
   .rw [hk] at h
    cases h;have:=Nat.eq_of_beq_eq_true hk;subst this;exact ⟨Ext.refl _,fun bF hF r=>⟨rfl,_,rfl,fun h=>h,fun h=>h,hr⟩⟩
  | _=>cases h
 | .mp _ _,x,b,b',ds,h,hr=>by
  cases x with
  | mp k v l=>cases h;exact ⟨Ext.refl _,fun bF hF r=>⟨rfl,_,rfl,fun h=>h,fun h=>h,hr⟩⟩
  | _=>cases h
 | .cm l,x,b,b',ds,h,hr=>by
  cases x with
  | cm xs =>
   obtain ⟨g,es,cl,k1,k2,k3⟩:=hr;obtain ⟨e1,h1⟩:=CMs.jw (bad:=bad) hH h k3;exact ⟨e1,fun bF hF r=>⟨(h1 bF hF r).1,_,rfl,fun _=>rfl,fun _=>rfl,g,es,cl,k1,k2,(h1 bF hF r).2⟩⟩
  | _=>cases h
 | .fz s,x,b,b',ds,h,hr=>by
  cases x with
  | fz x =>
   obtain ⟨e1,h1⟩:=L.zeW (bad:=bad) (show s.get0 n0 x b=_ from h) hr;exact ⟨e1,fun bF hF r=>⟨(h1 bF hF r).1,_,rfl,fun h=>h,fun h=>h,(h1 bF hF r).2⟩⟩
  | _=>cases h
end
end G
end Go.Proofs.YtbijabmjbgplbaaGreatDoor
namespace Go.Proofs.YtbijabmjbgplbaaGreatDoor
open Go.ChangeShapes Go.WideShapes Go.RowKit
namespace G
mutual
def inN (N:Nat->Prop):XV->Prop
 | .own id=>N id
 | .m id=>N id
 | .p id _=>N id
 | .rp id _ _ _=>N id
 | .vw id _ _=>N id
 | .fn _ _ caps=>insN N caps
 | _=>True
def insN (N:Nat->Prop):List XV->Prop
 | []=>True
 | c::cs=>inN N c/\insN N cs
end
mutual
theorem RepX.inN {κ:Kn}:∀{x:XV} {v:Value},RepX κ x v->inN κ.N x
 | .own id,v,h=>h.1
 | .m id,v,h=>h.1
 | .p id _,v,h=>h.1
 | .rp id _ _ _,v,h=>h.1
 | .vw id _ _,v,h=>h.1
 | .fn _ _ caps,v,⟨vs,_,h⟩=>Jj.insN h
 | .any,v,h=>trivial
 | .i k x,v,hr=>trivial
 | .n x,v,hr=>trivial
 | .z k x,v,hr=>trivial
 | .w8 x,v,hr=>trivial
 | .w16 x,v,hr=>trivial
 | .w32 x,v,hr=>trivial
 | .w64 x,v,hr=>trivial
 | .b x,v,hr=>trivial
 | .bl x,v,hr=>trivial
 | .s x,v,hr=>trivial
 | .e x,v,hr=>trivial
 | .ls c x,v,hr=>trivial
 | .fl c x,v,hr=>trivial
 | .nl c x,v,hr=>trivial
 | .nil,v,hr=>trivial
 | .mp k u l,v,hr=>trivial
 | .pt c x,v,hr=>trivial
 | .cp cs,v,hr=>trivial
 | .v u,v,hr=>trivial
theorem Jj.insN {κ:Kn}:∀{xs:List XV} {vs:List Value},Jj κ xs vs->insN κ.N xs
 | [],[],_=>trivial
 | c::cs,v::vs,⟨h1,h2⟩=>⟨h1.inN,Jj.insN h2⟩
 | [],_::_,h=>h.elim
 | _::_,[],h=>h.elim
end
structure Over (N:Nat->Prop) (κ κ':Kn):Prop where
 R:κ'.R=κ.R
 w:κ'.w=κ.w
 go:∀id,N id->κ'.N id/\κ'.ρ id=κ.ρ id
mutual
theorem RepX.over {N:Nat->Prop} {κ κ':Kn} (o:Over N κ κ'):∀{x:XV} {v:Value},G.inN N x->RepX κ x v->RepX κ' x v
 | .own id,v,hN,⟨h1,h2,h3⟩=>⟨(o.go id hN).1,h2.trans (o.go id hN).2.symm,h3⟩
 | .m id,v,hN,⟨h1,h2,h3⟩=>⟨(o.go id hN).1,h2.trans (o.go id hN).2.symm,h3⟩
 | .p id off,v,hN,⟨h1,b,h2,h3⟩=>⟨(o.go id hN).1,b,(o.go id hN).2.trans h2,h3⟩
 | .rp id sz j q,v,hN,⟨h1,b,h2,h3⟩=>⟨(o.go id hN).1,b,by rw [(o.go id hN).2];exact h2,h3⟩
 | .vw id sz lo,v,hN,⟨h1,A,n,c,A',c',h2,h3,h4⟩=>⟨(o.go id hN).1,A,n,c,A',c',h2,(o.go id hN).2.trans h3,h4⟩
 | .fn mt f caps,v,hN,⟨vs,h1,h2⟩=>⟨vs,h1,Jj.over o hN h2⟩
 | .any,v,hN,_=>trivial
 | .i k x,v,hN,hr=>wJ o.R o.w rfl hr
 | .n x,v,hN,hr=>wJ o.R o.w rfl hr
 | .z k x,v,hN,hr=>wJ o.R o.w rfl hr
 | .w8 x,v,hN,hr=>wJ o.R o.w rfl hr
 | .w16 x,v,hN,hr=>wJ o.R o.w rfl hr
 | .w32 x,v,hN,hr=>wJ o.R o.w rfl hr
 | .w64 x,v,hN,hr=>wJ o.R o.w rfl hr
 | .b x,v,hN,hr=>wJ o.R o.w rfl hr
 | .bl x,v,hN,hr=>wJ o.R o.w rfl hr
 | .s x,v,hN,hr=>wJ o.R o.w rfl hr
 | .e x,v,hN,hr=>wJ o.R o.w rfl hr
 | .ls c x,v,hN,hr=>wJ o.R o.w rfl hr
 | .fl c x,v,hN,hr=>wJ o.R o.w rfl hr
 | .nl c x,v,hN,⟨hr,hn⟩=>⟨by rw [o.R,o.w];exact hr,hn⟩
 | .nil,v,hN,hr=>wJ o.R o.w rfl hr
 | .mp k u l,v,hN,hr=>wJ o.R o.w rfl hr
 | .pt c x,v,hN,hr=>wJ o.R o.w rfl hr
 | .cp cs,v,hN,⟨fs,h1,h2⟩=>⟨fs,h1,by rw [o.R,o.w];exact h2⟩
 | .v u,v,hN,hr=>wJ o.R o.w rfl hr
theorem Jj.over {N:Nat->Prop} {κ κ':Kn} (o:Over N κ κ'):∀{xs:List XV} {vs:List Value},G.insN N xs->Jj κ xs vs->Jj κ' xs vs
 | [],[],_,_=>trivial
 | c::cs,v::vs,⟨hN1,hN2⟩,⟨h1,h2⟩=>⟨RepX.over o hN1 h1,Jj.over o hN2 h2⟩
 | [],_::_,_,h=>h.elim
 | _::_,[],_,h=>h.elim
end
def X1.inN (N:Nat->Prop):X1->Prop
 | .one x=>G.inN N x
 | .ag cs=>∀c,c∈cs->G.inN N c
def XA.inN (N:Nat->Prop):XA->Prop
 | .one x=>G.inN N x
 | .ag cs=>∀c,c∈cs->G.inN N c
 | .tu l=>∀a,a∈l->a.inN N
def XB.inN (N:Nat->Prop):XB->Prop
 | .box cs=>∀c,c∈cs->G.inN N c
 | .cm l=>∀p,p∈l->p.2.inN N
 | .fz x=>G.inN N x
 | .rd x=>x.inN N
 | _=>True
theorem Qd {α β:Type} {Q:α->β->Prop} {S:α->Prop} (hq:∀x y,Q x y->S x):∀{xs:List α} {ys:List β},All2 Q xs ys->∀x,x∈xs->S x
 | _,_,.nil,x,h=>by cases h
 | _,_,.cons a t,x,h=>by
  rcases List.mem_cons.1 h with rfl|h
  .exact hq _ _ a
  .exact Qd hq t x h
theorem zaJ {α β:Type} {Q Q':α->β->Prop}:∀{xs:List α} {ys:List β},(∀x y,x∈xs->Q x y->Q' x y)->All2 Q xs ys->All2 Q' xs ys
 | _,_,_,.nil=>.nil
 | _,_,h,.cons a t=>.cons (h _ _ (List.mem_cons_self ..) a) (zaJ (fun x y hx=>h x y (List.mem_cons_of_mem _ hx)) t)
theorem Rep1.inN {κ:Kn} {x:X1} {v:Value} (h:Rep1 κ x v):x.inN κ.N:=by
 cases x with
 | one x=>exact RepX.inN h
 | ag cs=>obtain ⟨vs,_,h⟩:=h;exact Qd (fun _ _ h=>RepX.inN h) h
theorem RepA.inN {κ:Kn} {x:XA} {v:Value} (h:RepA κ x v):x.inN κ.N:=by
 cases x with
 | one x=>exact RepX.inN h
 | ag cs=>obtain ⟨vs,_,h⟩:=h;exact Qd (fun _ _ h=>RepX.inN h) h
 | tu l=>obtain ⟨vs,_,h⟩:=h;exact Qd (fun _ _ h=>Rep1.inN h) h
theorem uO.inN {κ:Kn} {id:Nat} {x:XB} (h:uO κ id x):x.inN κ.N:=by
 induction x with
 | rd x ih=>exact ih h
 | box cs=>obtain ⟨_,_,_,_,_,h⟩:=h;exact Qd (fun _ _ h=>RepX.inN h) h
 | cm l=>obtain ⟨_,_,_,_,_,h⟩:=h;exact Qd (fun _ _ h=>Rep1.inN h.2) h
 | fz x=>exact RepX.inN h
 | row _ _ _=>trivial
 | mp _ _ _=>trivial
section
variable {N:Nat->Prop} {κ κ':Kn}
theorem Rep1.over (o:Over N κ κ') {x:X1} {v:Value} (hN:x.inN N) (h:Rep1 κ x v):Rep1 κ' x v:=by
 cases x with
 | one x=>exact RepX.over o hN h
 | ag cs=>obtain ⟨vs,e,h⟩:=h;exact ⟨vs,e,zaJ (fun x _ hx k=>RepX.over o (hN x hx) k) h⟩
theorem RepA.over (o:Over N κ κ') {x:XA} {v:Value} (hN:x.inN N) (h:RepA κ x v):RepA κ' x v:=by
 cases x with
 | one x=>exact RepX.over o hN h
 | ag cs=>obtain ⟨vs,e,h⟩:=h;exact ⟨vs,e,zaJ (fun x _ hx k=>RepX.over o (hN x hx) k) h⟩
 | tu l=>obtain ⟨vs,e,h⟩:=h;exact ⟨vs,e,zaJ (fun x _ hx k=>Rep1.over o (hN x hx) k) h⟩
theorem uO.over (o:Over N κ κ') {id:Nat} {x:XB} (hid:N id) (hN:x.inN N) (h:uO κ id x):uO κ' id x:=by
 have hρ:=(o.go id hid).2
 induction x with
 | rd x ih=>exact ih hN h
 | box cs=>obtain ⟨b,vs,t,h1,h2,h3⟩:=h;exact ⟨b,vs,t,hρ.trans h1,by rw [o.w];exact h2,zaJ (fun x _ hx k=>RepX.over o (hN x hx) k) h3⟩
 | row e c l =>
  obtain ⟨vs,h1,h2⟩:=h;refine ⟨vs,by rw [hρ,o.w];exact h1,?_⟩;rw [o.R,o.w];exact h2
 | mp k v l=>obtain ⟨b,es,cl,h1,h2,h3⟩:=h;exact ⟨b,es,cl,hρ.trans h1,by rw [o.w];exact h2,h3⟩
 | cm l=>obtain ⟨b,es,cl,h1,h2,h3⟩:=h;exact ⟨b,es,cl,hρ.trans h1,by rw [o.w];exact h2,zaJ (fun x _ hx k=>⟨k.1,Rep1.over o (hN x hx) k.2⟩) h3⟩
 | fz x=>show RepX κ' x (κ'.ρ id);rw [hρ];exact RepX.over o hN h
end
def actO (n0:Nat) (b:Bi) (c:Nat):Option Nat:=bif Nat.blt c n0 then some c else lk b c
theorem znm {n0 bad:Nat} {b bF:Bi} {c a:Nat} (h:actO n0 b c=some a) (hF:Ext b bF):act n0 bad bF c=a:=by
 unfold actO at h;unfold act;cases hc:Nat.blt c n0
 .rw [hc,cond_false] at h
  rw [cond_false,hF _ _ h];rfl
 .rw [hc,cond_true] at h;cases h;rfl
def Hs.get (n0:Nat) (H:Nat->Option XB):List (Nat×BS)->Bi->Option (List Dy×Bi)
 | [],b=>some ([],b)
 | p::r,b =>
  match actO n0 b p.1 with
  | some a=>match H a with
   | some x=>both (α:=Unit) (p.2.get n0 H x b) fun b=>Hs.get n0 H r b
   | none=>none
  | none=>none
def Hs.fill (g:Nat->Nat):List (Nat×BS)->List Dy->Uf×List Dy
 | [],r=>([],r)
 | p::ss,r=>let a:=p.2.fill g r;let c:=Hs.fill g ss a.2;((g p.1,a.1)::c.1,c.2)
theorem Hs.jw {κ:Kn} {H:Nat->Option XB} {n0 bad:Nat} (hH:HOk κ H):∀{hs:List (Nat×BS)} {b b':Bi} {ds:List Dy},Hs.get n0 H hs b=some (ds,b') ->
  Ext b b'/\∀bF,Ext b' bF->∀(κ':Kn) (g2:Nat->Nat),Ren κ κ' (act n0 bad bF) g2->∀r,(Hs.fill g2 hs (ds++r)).2=r /\
   ∀i y,(i,y)∈(Hs.fill g2 hs (ds++r)).1->∃c x z,i=g2 c/\c∈hs.map (·.1)/\y=some z/\H (act n0 bad bF c)=some x/\(z.own=true->x.own=true)/\(z.live=true->x.live=true)/\uO κ' i z
 | [],b,b',ds,h=>by cases h;exact ⟨Ext.refl _,fun bF _ κ' g2 _ r=>⟨rfl,fun i y hi=>by cases hi⟩⟩
 | p::hs,b,b',ds,h=>by
  unfold Hs.get at h;split at h
  .rename_i a ha
   split at h
   .rename_i x hx
    obtain ⟨d1,b1,d2,h1,h2,rfl⟩:=zcm h;obtain ⟨hN,hB⟩:=hH.blk hx;obtain ⟨e1,k1⟩:=BS.jw (bad:=bad) hH h1 hB;obtain ⟨e2,k2⟩:=Hs.jw hH h2;refine ⟨e1.trans e2,fun bF hF κ' g2 hren r=>?_⟩;obtain ⟨k3,y,k4,k5,k5',k6⟩:=k1 bF (e2.trans hF) (d2++r);obtain ⟨k7,k8⟩:=k2 bF hF κ' g2 hren r;have hact:act n0 bad bF p.1=a:=znm ha (e1.trans (e2.trans hF));have hgo:=hren.go p.1 (by rw [hact];exact hN);rw [hact] at hgo;obtain ⟨k9,k10⟩:=BS.xg hren (c:=g2 p.1) (a:=a) hgo.2 p.2 (d1++(d2++r));obtain ⟨z,k11,k12,k12',k13⟩:=k10 y k4 k6;unfold Hs.fill;simp only;rw [List.append_assoc,<-k9,k3];refine ⟨k7,fun i y' hi=>?_⟩;rcases List.mem_cons.1 hi with hi|hi
    .cases hi
     exact ⟨p.1,x,z,rfl,by simp,k11,by rw [hact];exact hx,fun h=>k5 (k12 h),fun h=>k5' (k12' h),k13⟩
    .obtain ⟨c,x',z',m1,m2,m3⟩:=k8 i y' hi
     exact ⟨c,x',z',m1,by rw [List.map_cons];exact List.mem_cons_of_mem _ m2,m3⟩
   .cases h
  .cases h
theorem Hs.JL (g:Nat->Nat):∀(hs:List (Nat×BS)) (r:List Dy),keys (Hs.fill g hs r).1=hs.map fun p=>g p.1
 | [],r=>rfl
 | p::hs,r=>by
  unfold Hs.fill;simp only;show g p.1::keys (Hs.fill g hs _).1=_;rw [Hs.JL g hs];rfl
structure Kp where
 e:List (Nat×SH)
 h:List (Nat×BS)
 ds:List Nat
 hs:List Nat
 nx:Nat
 cs:List D
def Kp.get (n0:Nat) (H:Nat->Option XB) (E:Nat->XA) (k:Kp):Option (TT k.cs×Bi) :=
 match SHs.get n0 H (k.e.map (·.2)) (k.e.map fun p=>E p.1) [] with
 | some (ds,b)=>match Hs.get n0 H k.h b with
  | some (es,b')=>match tup k.cs (ds++es) with
   | some x=>some (x,b')
   | none=>none
  | none=>none
 | none=>none
def zipE:List (Nat×SH)->List X1->XEnv
 | p::ps,x::xs=>(p.1,x.xa)::zipE ps xs
 | _,_=>[]
def Kp.fill (g:Nat->Nat) (k:Kp) (x:TT k.cs):XEnv×Uf :=
 let a:=SHs.fill g (k.e.map (·.2)) (dys k.cs x)
 (zipE k.e a.1,(Hs.fill g k.h a.2).1)
def drops (ds:List Nat):XEnv:=ds.map fun t=>(t,XA.one .any)
def Uy (ds:List Nat):Uf:=ds.map fun t=>(t,none)
def Kp.st (k:Kp) (x:TT k.cs):St:=let a:=k.fill id x;⟨a.1++drops k.ds,a.2++Uy k.hs,k.nx⟩
def memB (l:List Nat) (j:Nat):Bool:=l.any fun k=>Nat.beq k j
theorem jk {l:List Nat} {j:Nat} (h:memB l j=true):j∈l:=by
 obtain ⟨k,h1,h2⟩:=List.any_eq_true.1 h;rw [<-Nat.eq_of_beq_eq_true h2];exact h1
theorem zc5 {l:List Nat} {j:Nat} (h:j∈l):memB l j=true:=List.any_eq_true.2 ⟨j,h,Nat.beq_refl j⟩
def nodupB:List Nat->Bool
 | []=>true
 | a::l=>!(memB l a)&&nodupB l
theorem Zx:∀{l:List Nat},nodupB l=true->l.Nodup
 | [],_=>List.nodup_nil
 | a::l,h=>by
  unfold nodupB at h;rw [Bool.and_eq_true] at h;refine List.nodup_cons.2 ⟨fun hm=>?_,Zx h.2⟩;rw [zc5 hm] at h;cases h.1
theorem Uz {α:Type} {f:α->Nat}:∀{l:List α},(l.map f).Nodup->∀{a b:α},a∈l->b∈l->f a=f b->a=b
 | x::l,h,a,b,ha,hb,e=>by
  rw [List.map_cons,List.nodup_cons] at h;rcases List.mem_cons.1 ha with ha|ha<;>rcases List.mem_cons.1 hb with hb|hb
  .rw [ha,hb]
  .refine absurd ?_ h.1
   rw [<-ha,e];exact List.mem_map_of_mem hb
  .refine absurd ?_ h.1
   rw [<-hb,<-e];exact List.mem_map_of_mem ha
  .exact Uz h.2 ha hb e
theorem J6:∀{h:Uf} {id:Nat} {x:XB},look h id=some x->(id,some x)∈h
 | [],id,x,h=>by cases h
 | (k,y)::r,id,x,h=>by
  rw [kJ] at h;split at h
  .rename_i e;subst e;subst h;exact List.mem_cons_self ..
  .exact List.mem_cons_of_mem _ (J6 h)
def JI (e:XEnv):List Nat:=e.map (·.1)
theorem VE:∀{a b:XEnv} {t:Nat},t∈JI a->get (a++b) t=get a t
 | [],b,t,h=>by cases h
 | (k,x)::r,b,t,h=>by
  rw [List.cons_append,Vx,Vx]
  by_cases hk:k=t
  .rw [if_pos hk,if_pos hk]
  .rw [if_neg hk,if_neg hk]
   exact VE (by rcases List.mem_cons.1 h with h|h;exact absurd h.symm hk;exact h)
theorem ZF:∀{a b:XEnv} {t:Nat},t∉JI a->get (a++b) t=get b t
 | [],b,t,h=>rfl
 | (k,x)::r,b,t,h=>by
  rw [List.cons_append,Vx,if_neg fun e=>h (by rw [e];exact List.mem_cons_self ..)];exact ZF fun e=>h (List.mem_cons_of_mem _ e)
theorem zbI (ds:List Nat) (t:Nat):get (drops ds) t=.one .any:=by
 induction ds with
 | nil=>rfl
 | cons d ds ih =>
  show get ((d,_)::drops ds) t=_;rw [Vx];split
  .rfl
  .exact ih
theorem zbQ (ds:List Nat) (t:Nat):look (Uy ds) t=none:=by
 induction ds with
 | nil=>rfl
 | cons d ds ih =>
  show look ((d,none)::Uy ds) t=_;rw [kJ];split
  .rfl
  .exact ih
theorem Wp (ds:List Nat):JI (drops ds)=ds:=by
 unfold JI drops;rw [List.map_map];exact List.map_id' ds
theorem VW (ds:List Nat):keys (Uy ds)=ds:=by
 unfold keys Uy;rw [List.map_map];exact List.map_id' ds
theorem zds {κ:Kn} {f:Nat->Value}:∀{ps:List (Nat×SH)} {xs:List X1},All2 (Rep1 κ) xs (ps.map fun p=>f p.1)->JI (zipE ps xs)=ps.map (·.1)/\∀t,t∈ps.map (·.1)->RepA κ (get (zipE ps xs) t) (f t)
 | [],xs,h=>by cases h;exact ⟨rfl,fun t ht=>by cases ht⟩
 | p::ps,xs,h=>by
  cases h with
  | @cons x _ xs' _ a t =>
   obtain ⟨h1,h2⟩:=zds t;refine ⟨congrArg (p.1::·) h1,fun t ht=>?_⟩;show RepA κ (get ((p.1,x.xa)::zipE ps xs') t) (f t);rw [Vx]
   by_cases hk:p.1=t
   .rw [if_pos hk,<-hk];exact UY.2 a
   .rw [if_neg hk]
    exact h2 t (by rcases List.mem_cons.1 ht with h|h;exact absurd h.symm hk;exact h)
def Kp.fits (n0:Nat) (b:Bi) (k:Kp) (top:St):Bool :=
 b.all (fun p=>Nat.blt p.1 k.nx&&(Nat.ble n0 p.2||memB k.hs p.2))&&(Nat.ble n0 k.nx&&(nodupB (k.h.map fun p=>act n0 top.nx b p.1) &&
  ((JI top.env).all (fun t=>memB k.ds t||memB (k.e.map (·.1)) t)&&(keys top.hp).all fun id=>Nat.ble n0 id||(memB k.hs id||memB (k.h.map (·.1)) id))))
structure Cx where
 P:Program
 nt:Nat
 ce:XEnv
 ch:Uf
def Cx.full (cx:Cx) (s:St):St:=⟨s.env++cx.ce,s.hp++cx.ch,s.nx⟩
def Cx.under (cx:Cx) (s:St):Cx:={ cx with ce:=s.env++cx.ce,ch:=s.hp++cx.ch }
def St.on (s b:St):St:=⟨s.env++b.env,s.hp++b.hp,s.nx⟩
theorem zcF (cx:Cx) (b s:St):(cx.under b).full s=cx.full (s.on b):=by
 show (⟨s.env++(b.env++cx.ce),s.hp++(b.hp++cx.ch),s.nx⟩:St)=⟨(s.env++b.env)++cx.ce,(s.hp++b.hp)++cx.ch,s.nx⟩;rw [List.append_assoc,List.append_assoc]
def leaf (cx:Cx) (n0:Nat) (k:Kp) (s:St):Option (TT k.cs) :=
 match k.get n0 (look (cx.full s).hp) (get (cx.full s).env) with
 | some (x,b)=>bif k.fits n0 b s then some x else none
 | none=>none
structure Closed (N:Nat->Prop) (e:XEnv) (h:Uf):Prop where
 e:∀t,(get e t).inN N
 h:∀id x,look h id=some x->N id/\x.inN N
theorem Ok.closed {nt:Nat} {B:Base} {κ:Kn} {s:St} {a:Act} (ok:Ok nt B κ s a):Closed κ.N s.env s.hp:=⟨fun t=>(ok.env t).inN,fun id x h=>⟨(ok.hp.blk h).1,(ok.hp.blk h).2.inN⟩⟩
theorem zcv:∀{b:Bi} {c a:Nat},lk b c=some a->(c,a)∈b
 | [],c,a,h=>by cases h
 | (k,y)::r,c,a,h=>by
  unfold lk at h;cases hk:Nat.beq k c
  .rw [hk,cond_false] at h;exact List.mem_cons_of_mem _ (zcv h)
  .rw [hk,cond_true] at h
   cases h;rw [Nat.eq_of_beq_eq_true hk];exact List.mem_cons_self ..
theorem ze0 {cx:Cx} {B:Base} {κ:Kn} {k:Kp} {s:St} {a:Act} {x:TT k.cs} (ok:Ok cx.nt B κ (cx.full s) a) (hB:∀id,B.N id->id<B.n) (hc:Closed B.N cx.ce cx.ch) (h:leaf cx B.n k s=some x):∃κ',κ'.w=κ.w/\Ok cx.nt B κ' (cx.full (k.st x)) a:=by
 unfold leaf at h;split at h
 .rename_i x' b hx
  cases hf:k.fits B.n b s
  .rw [hf] at h;cases h
  .rw [hf,cond_true] at h
   cases h;unfold Kp.fits at hf;simp only [Bool.and_eq_true] at hf;obtain ⟨f1,f2,f3,f4,f5⟩:=hf;have f2:=Nat.le_of_ble_eq_true f2;have f3:=Zx f3;generalize hH0:look (cx.full s).hp=H at hx;have hH:HOk κ H:=by rw [<-hH0];exact ok.hp
   have hbad:¬κ.N s.nx:=fun e=>Nat.lt_irrefl _ (ok.nx _ e);unfold Kp.get at hx;split at hx
   .rename_i ds b1 h1
    split at hx
    .rename_i es b' h2
     split at hx
     .rename_i x' h3
      cases hx;have h3:=zkK _ h3;obtain ⟨e1,g1⟩:=SHs.jw (bad:=s.nx) hH h1 (vs:=k.e.map fun p=>a.tmps.getD p.1 undef) (zaj.2 (by
       clear h1 h2 h3 f1 f3 f4
       induction k.e with
       | nil=>exact .nil
       | cons p r ih=>exact .cons (ok.env p.1) ih))
      obtain ⟨e2,g2⟩:=Hs.jw (bad:=s.nx) hH h2
      let g:=act B.n s.nx b
      let κ':Kn:=⟨fun c=>κ.ρ (g c),fun c=>if c<B.n then B.N c else κ.N (g c),κ.R,κ.w⟩
      have glt:∀{c},c<B.n->g c=c:=fun {c} hc=>by
       show (bif Nat.blt c B.n then c else _)=c;rw [show Nat.blt c B.n=true from Nat.blt_eq▸hc];rfl
      have gge:∀{c},¬c<B.n->κ.N (g c)->∃a',lk b c=some a'/\g c=a':=fun {c} hc hN=>by
       have hb:Nat.blt c B.n=false:=by cases hb:Nat.blt c B.n;rfl;exact absurd (by rwa [Nat.blt_eq] at hb) hc
       have hg:g c=(lk b c).getD s.nx:=by show (bif Nat.blt c B.n then c else _)=_;rw [hb];rfl
       cases hl:lk b c with
       | none=>rw [hg,hl] at hN;exact absurd hN hbad
       | some a'=>exact ⟨a',rfl,by rw [hg,hl];rfl⟩
      have hBN:∀c,c<B.n->κ.N c->B.N c:=fun c hc hN=>(ok.nw c hN).resolve_right (by omega);have hren:Ren κ κ' g id:=⟨rfl,rfl,fun c hN=>⟨by
       show (if c<B.n then B.N c else κ.N (g c))
       by_cases hc:c<B.n
       .rw [if_pos hc];exact hBN c hc (by rw [glt hc] at hN;exact hN)
       .rw [if_neg hc];exact hN,rfl⟩⟩
      have hover:Over B.N κ κ':=⟨rfl,rfl,fun id hid=>⟨by show (if id<B.n then B.N id else _);rw [if_pos (hB id hid)];exact hid,by show κ.ρ (g id)=_;rw [glt (hB id hid)]⟩⟩;obtain ⟨q1,q2⟩:=g1 b e2 es;rw [<-h3] at q1 q2;obtain ⟨q3,q4⟩:=SHs.xg hren (k.e.map (·.2)) (dys k.cs x);have q5:=q4 _ q2;have q6:(SHs.fill id (k.e.map (·.2)) (dys k.cs x)).2=es:=q3.symm.trans q1;obtain ⟨z1,z2⟩:=zds (κ:=κ') (f:=fun t=>a.tmps.getD t undef) q5;obtain ⟨q7,q8⟩:=g2 b (Ext.refl _) κ' id hren [];rw [List.append_nil] at q7 q8;have hfill:(k.fill id x)=(zipE k.e (SHs.fill id (k.e.map (·.2)) (dys k.cs x)).1,(Hs.fill id k.h es).1):=by
       unfold Kp.fill;simp only;rw [q6]
      have hkeys:keys (Hs.fill id k.h es).1=k.h.map (·.1):=Hs.JL id k.h es;have henv:∀t,t∉k.ds->t∉k.e.map (·.1)->get (cx.full s).env t=get cx.ce t:=fun t ht1 ht2=>ZF fun hm=>by
       have:=List.all_eq_true.1 f4 t hm;rw [Bool.or_eq_true] at this;exact this.elim (fun h=>ht1 (jk h)) fun h=>ht2 (jk h)
      have hhp:∀id,id<B.n->id∉k.hs->id∉k.h.map (·.1)->H id=look cx.ch id:=fun id h0 ht1 ht2=>by
       rw [<-hH0];refine uJ fun hm=>?_;have:=List.all_eq_true.1 f5 id hm;simp only [Bool.or_eq_true] at this;rcases this with h|h|h
       .have:=Nat.le_of_ble_eq_true h;omega
       .exact ht1 (jk h)
       .exact ht2 (jk h)
      let h':=(Hs.fill id k.h es).1++Uy k.hs++cx.ch
      have hlook:∀i y,look h' i=some y->(∃c x0,i=c/\c∈k.h.map (·.1)/\H (g c)=some x0/\((y.own=true->x0.own=true)/\(y.live=true->x0.live=true))/\uO κ' i y)\/(i∉k.h.map (·.1)/\i∉k.hs/\look cx.ch i=some y/\H i=some y/\B.N i/\y.inN B.N):=fun i y hi=>by
       by_cases hk:i∈k.h.map (·.1)
       .rw [show look h' i=look (Hs.fill id k.h es).1 i by
         show look (_++_++_) i=_;rw [List.append_assoc];exact jI (by rw [hkeys];exact hk)] at hi
        obtain ⟨c,x0,z,m1,m2,m3,m4,m5,m5',m6⟩:=q8 i _ (J6 hi);cases m3;exact .inl ⟨c,x0,m1,m2,m4,⟨m5,m5'⟩,m6⟩
       .by_cases hk2:i∈k.hs
        .have hn:look h' i=none:=by
          show look (_++_++_) i=_;rw [List.append_assoc,uJ (by rw [hkeys];exact hk),jI (by rw [VW];exact hk2),zbQ]
         rw [hn] at hi;cases hi
        .have hn:look h' i=look cx.ch i:=by
          show look (_++_++_) i=_;rw [List.append_assoc,uJ (by rw [hkeys];exact hk),uJ (by rw [VW];exact hk2)]
         rw [hn] at hi;obtain ⟨m1,m2⟩:=hc.h i y hi;exact .inr ⟨hk,hk2,hi,(hhp i (hB i m1) hk2 hk).trans hi,m1,m2⟩
      have hrho:∀{i},B.N i->κ'.ρ i=κ.ρ i:=fun {i} h=>(hover.go i h).2;refine ⟨κ',rfl,?_⟩;have hnx':∀c,κ'.N c->c<k.nx:=fun c hN=>by
       have hN:(if c<B.n then B.N c else κ.N (g c)):=hN
       by_cases hlt:c<B.n
       .omega
       .rw [if_neg hlt] at hN
        obtain ⟨a',l1,l2⟩:=gge hlt hN;have l3:=List.all_eq_true.1 f1 _ (zcv l1);simp only [Bool.and_eq_true] at l3;simpa [Nat.blt_eq] using l3.1
      have hst:cx.full (k.st x)=⟨zipE k.e (SHs.fill id (k.e.map (·.2)) (dys k.cs x)).1++drops k.ds++cx.ce,h',k.nx⟩:=by
       unfold Cx.full Kp.st;simp only;rw [hfill]
      rw [hst];refine ⟨ok.nt,ok.defers,fun t=>?_,⟨fun {i y} hi=>?_,fun {i j y z bb} hi hj ho1 ho2 hb1 hb2=>?_,fun {i y bb} hi ho hb hR=>?_⟩,⟨ok.wd.ult,ok.wd.tab,k.nx,hnx'⟩,hnx',ok.fr,fun {i y bb} hi ho hb=>?_,ok.rb,ok.rr,fun id hid=>?_,f2,fun c hN=>?_⟩
      .show RepA κ' (get (_++_++_) t) _
       rw [List.append_assoc]
       by_cases ht:t∈k.e.map (·.1)
       .rw [VE (by rw [z1];exact ht)];exact z2 t ht
       .rw [ZF (by rw [z1];exact ht)]
        by_cases ht2:t∈k.ds
        .rw [VE (by rw [Wp];exact ht2),zbI];exact trivial
        .rw [ZF (by rw [Wp];exact ht2)]
         have:=ok.env t;rw [henv t ht2 ht] at this;exact this.over hover (hc.e t)
      .rcases hlook i y hi with ⟨c,x0,m1,m2,m3,m4,m5⟩|⟨_,_,m1,m2,m3,m4⟩
       .subst m1;exact ⟨(hren.go i (hH.blk m3).1).1,m5⟩
       .exact ⟨(hover.go i m3).1,(hH.blk m2).2.over hover m3 m4⟩
      .rcases hlook i y hi with ⟨c,x0,m1,m2,m3,m4,m5⟩|⟨n1,n2,m1,m2,m3,m4⟩<;>rcases hlook j z hj with ⟨c',x0',m1',m2',m3',m4',m5'⟩|⟨n1',n2',m1',m2',m3',m4'⟩
       .subst m1 m1'
        have:=hH.inj m3 m3' (m4.2 ho1) (m4'.2 ho2) hb1 hb2;obtain ⟨p1,o1,rfl⟩:=List.mem_map.1 m2;obtain ⟨p2,o2,rfl⟩:=List.mem_map.1 m2';rw [Uz f3 o1 o2 this]
       .subst m1
        rw [hrho m3'] at hb2;have e:=hH.inj m3 m2' (m4.2 ho1) ho2 hb1 hb2
        by_cases hlt:i<B.n
        .rw [glt hlt] at e;exact e
        .obtain ⟨a',l1,l2⟩:=gge hlt (hH.blk m3).1
         have l3:=List.all_eq_true.1 f1 _ (zcv l1);simp only [Bool.and_eq_true,Bool.or_eq_true] at l3;rw [<-l2,e] at l3;rcases l3.2 with l3|l3
         .have:=Nat.le_of_ble_eq_true l3;have:=hB _ m3';omega
         .exact absurd (jk l3) n2'
       .subst m1'
        rw [hrho m3] at hb1;have e:=hH.inj m3' m2 (m4'.2 ho2) ho1 hb2 hb1
        by_cases hlt:j<B.n
        .rw [glt hlt] at e;exact e.symm
        .obtain ⟨a',l1,l2⟩:=gge hlt (hH.blk m3').1
         have l3:=List.all_eq_true.1 f1 _ (zcv l1);simp only [Bool.and_eq_true,Bool.or_eq_true] at l3;rw [<-l2,e] at l3;rcases l3.2 with l3|l3
         .have:=Nat.le_of_ble_eq_true l3;have:=hB _ m3;omega
         .exact absurd (jk l3) n2
       .rw [hrho m3] at hb1
        rw [hrho m3'] at hb2;exact hH.inj m2 m2' ho1 ho2 hb1 hb2
      .rcases hlook i y hi with ⟨c,x0,m1,m2,m3,m4,m5⟩|⟨_,_,m1,m2,m3,m4⟩
       .subst m1;exact hH.notR m3 (m4.2 ho) hb hR
       .rw [hrho m3] at hb;exact hH.notR m2 ho hb hR
      .rcases hlook i y hi with ⟨c,x0,m1,m2,m3,m4,m5⟩|⟨_,_,m1,m2,m3,m4⟩
       .subst m1
        rw [<-hH0] at m3;exact ok.own m3 (m4.1 ho) hb
       .rw [hrho m3] at hb
        rw [<-hH0] at m2;exact ok.own m2 ho hb
      .obtain ⟨m1,m2⟩:=hover.go id hid
       exact ⟨m1,m2.trans (ok.ids id hid).2⟩
      .have hN:(if c<B.n then B.N c else κ.N (g c)):=hN
       by_cases hlt:c<B.n
       .rw [if_pos hlt] at hN;exact .inl hN
       .exact .inr (Nat.le_of_not_lt hlt)
     .cases hx
    .cases hx
   .cases hx
 .cases h
end G
end Go.Proofs.YtbijabmjbgplbaaGreatDoor
namespace Go.Proofs.YtbijabmjbgplbaaGreatDoor
open Go.ChangeShapes Go.WideShapes Go.RowKit
namespace G
structure Alt where
 r:RS
 h:List (Nat×BS)
 gone:List Nat
 nx:Nat
 cs:List D
@[reducible] def Alts:List Alt->Type
 | []=>Empty
 | [a]=>TT a.cs
 | a::b::r=>TT a.cs ⊕ Alts (b::r)
structure Sel where
 a:Alt
 x:TT a.cs
def sel:(l:List Alt)->Alts l->Sel
 | [a],x=>⟨a,x⟩
 | a::b::r,.inl x=>⟨a,x⟩
 | a::b::r,.inr y=>sel (b::r) y
theorem zfd:∀(l:List Alt) (y:Alts l),(sel l y).a∈l
 | [a],y=>List.mem_singleton.2 rfl
 | a::b::l,.inl x=>List.mem_cons_self ..
 | a::b::l,.inr y=>List.mem_cons_of_mem _ (zfd (b::l) y)
def zme {R:Type}:(l:List Alt)->Alts l->(Sel->Option R)->Option R
 | [],_,_=>none
 | [a],x,f=>f ⟨a,x⟩
 | a::b::r,s,f=>Md.onS s (fun x=>f ⟨a,x⟩) fun y=>zme (b::r) y f
theorem zii {R:Type} {f:Sel->Option R} {r:R}:∀(l:List Alt) {y:Alts l},zme l y f=some r->f (sel l y)=some r
 | [],y,h=>by cases h
 | [a],y,h=>h
 | a::b::l,.inl x,h=>h
 | a::b::l,.inr y,h=>zii (b::l) (y:=y) h
def Sel.upd (g:Nat->Nat) (ids wr:List Nat) (s:Sel):Upd :=
 let v:=s.a.r.fill g (dys s.a.cs s.x)
 ⟨v.1,(Hs.fill g s.a.h v.2).1++Uy (s.a.gone.map g),ids,wr⟩
structure Ctr where
 k:Kp
 wr:List Nat
 alts:List Alt
 m:TT k.cs->Option (Alts alts)
def Ctr.args (ct:Ctr) (x:TT ct.k.cs):List X1:=(SHs.fill id (ct.k.e.map (·.2)) (dys ct.k.cs x)).1
def Ctr.blocks (ct:Ctr) (x:TT ct.k.cs):Uf:=(ct.k.fill id x).2
def news (np nx:Nat):List Nat:=List.range' np (nx - np)
def FnC (P:Program) (f:FuncId) (ct:Ctr):Prop :=
 ∀(κ:Kn) (x:TT ct.k.cs) (y:Alts ct.alts),ct.m x=some y->∀vs:List Value,All2 (Rep1 κ) (ct.args x) vs->HOk κ (look (ct.blocks x))->WOk κ->(∀id,κ.N id->id<ct.k.nx) ->
  Calls P f vs.toArray κ.w fun e w'=>∃v κ',e=.returned v/\w'=κ'.w/\Eff κ κ' (look (ct.blocks x)) ((sel ct.alts y).upd id (news ct.k.nx (sel ct.alts y).a.nx) ct.wr) v
def Ctr.static (ct:Ctr):Bool:=ct.wr.all (Nat.blt · ct.k.nx)&&ct.alts.all fun a=>nodupB (a.h.map (·.1))
def rnm (np q:Nat) (b:Bi) (c:Nat):Nat:=bif Nat.blt c np then act 0 q b c else q+1+(c - np)
def zfv (H:Nat->Option XB) (xs:List XA) (q:Nat) (ct:Ctr):Option (TT ct.k.cs×Bi) :=
 match SHs.get 0 H (ct.k.e.map (·.2)) xs [] with
 | some (ds,b)=>match Hs.get 0 H ct.k.h b with
  | some (es,b')=>match tup ct.k.cs (ds++es) with
   | some x=>bif b'.all (fun p=>Nat.blt p.1 ct.k.nx)&&(nodupB (ct.k.h.map fun p=>act 0 q b' p.1)&&ct.static) then some (x,b') else none
   | none=>none
  | none=>none
 | none=>none
def zbz (ct:Ctr) (q:Nat) (b:Bi) (s:Sel):Upd:=s.upd (rnm ct.k.nx q b) (q::news (q+1) (q+1+(s.a.nx - ct.k.nx))) (ct.wr.map (act 0 q b))
def znl {R:Type} (H:Nat->Option XB) (xs:List XA) (q:Nat) (ct:Ctr) (K:Upd->Option R):Option (Option R) :=
 match zfv H xs q ct with
 | some (x,b)=>some ((ct.m x).bind fun y=>zme ct.alts y fun s=>K (zbz ct q b s))
 | none=>none
theorem zcw:∀{h:Uf} {i:Nat} {y:Option XB},(keys h).Nodup->(i,y)∈h->look h i=y
 | (k,x)::r,i,y,hn,hm=>by
  rw [kJ];have hn':=List.nodup_cons.1 (show (k::keys r).Nodup from hn);rcases List.mem_cons.1 hm with h|h
  .cases h;rw [if_pos rfl]
  .rw [if_neg fun e=>hn'.1 (by subst e;exact List.mem_map_of_mem (f:=(·.1)) h)]
   exact zcw hn'.2 h
theorem zaw {h:Uf} {ds:List Nat} {i:Nat} {x:XB} (e:look (h++Uy ds) i=some x):look h i=some x:=by
 by_cases hi:i∈keys h
 .rwa [jI hi] at e
 .rw [uJ hi,zbQ] at e;cases e
theorem L.qh (g1 g2:Nat->Nat) (s:L) (ds:List Dy):(s.fill g1 ds).2=(s.fill g2 ds).2:=by unfold L.fill;split<;>rfl
theorem Ls.qh (g1 g2:Nat->Nat):∀(ss:List L) (ds:List Dy),(Ls.fill g1 ss ds).2=(Ls.fill g2 ss ds).2
 | [],ds=>rfl
 | s::ss,ds=>by unfold Ls.fill;simp only;rw [L.qh g1 g2,Ls.qh g1 g2]
theorem CS.qh (g1 g2:Nat->Nat) (s:CS) (ds:List Dy):(s.fill g1 ds).2=(s.fill g2 ds).2:=by
 cases s with
 | leaf s=>exact L.qh g1 g2 s ds
 | clo mt f ss=>exact Ls.qh g1 g2 ss ds
theorem GS.qh (g1 g2:Nat->Nat):∀(ss:List GS) (ds:List Dy),(GS.fill g1 ss ds).2=(GS.fill g2 ss ds).2
 | [],ds=>rfl
 | .cell s::ss,ds=>by unfold GS.fill;simp only;rw [CS.qh g1 g2,GS.qh g1 g2]
 | .part c::ss,[]=>rfl
 | .part c::ss,⟨.n,x⟩::ds=>rfl
 | .part _::ss,⟨.o c,x⟩::ds=>GS.qh g1 g2 ss ds
theorem SH.qh (g1 g2:Nat->Nat) (s:SH) (ds:List Dy):(s.fill g1 ds).2=(s.fill g2 ds).2:=by
 cases s with
 | one s=>exact CS.qh g1 g2 s ds
 | ag l=>exact GS.qh g1 g2 l ds
theorem CMs.qh (g1 g2:Nat->Nat):∀(ss:List (Value×SH)) (ds:List Dy),(CMs.fill g1 ss ds).2=(CMs.fill g2 ss ds).2
 | [],ds=>rfl
 | s::ss,ds=>by unfold CMs.fill;simp only;rw [SH.qh g1 g2,CMs.qh g1 g2]
theorem BS.zbH (g1 g2:Nat->Nat):∀(s:BS) (ds:List Dy),(s.fill g1 ds).2=(s.fill g2 ds).2/\(s.fill g1 ds).1.isSome=(s.fill g2 ds).1.isSome
 | .rd s,ds=>by
  obtain ⟨h1,h2⟩:=BS.zbH g1 g2 s ds;refine ⟨h1,?_⟩;show (Option.map XB.rd _).isSome=(Option.map XB.rd _).isSome;rw [Option.isSome_map,Option.isSome_map,h2]
 | .box l,ds=>⟨GS.qh g1 g2 l ds,rfl⟩
 | .cm l,ds=>⟨CMs.qh g1 g2 l ds,rfl⟩
 | .fz s,ds=>⟨L.qh g1 g2 s ds,rfl⟩
 | .row e c,[]=>⟨rfl,rfl⟩
 | .row e c,⟨.n,x⟩::ds=>⟨rfl,rfl⟩
 | .row e c0,⟨.o c,x⟩::ds=>by cases c<;>exact ⟨rfl,rfl⟩
 | .mp k v,[]=>⟨rfl,rfl⟩
 | .mp k v,⟨.n,x⟩::ds=>⟨rfl,rfl⟩
 | .mp k v,⟨.o c,x⟩::ds=>by cases c<;>exact ⟨rfl,rfl⟩
theorem BS.qh (g1 g2:Nat->Nat) (s:BS) (ds:List Dy):(s.fill g1 ds).2=(s.fill g2 ds).2:=(BS.zbH g1 g2 s ds).1
theorem BS.zid {g1 g2:Nat->Nat} (s:BS) (ds:List Dy) {y:XB} (h:(s.fill g2 ds).1=some y):∃z,(s.fill g1 ds).1=some z:=by
 have:=(BS.zbH g1 g2 s ds).2;rw [h] at this;exact Option.isSome_iff_exists.1 this
theorem Hs.xg {κ κ':Kn} {g1 g2:Nat->Nat} (h:Ren κ κ' g1 g2):∀(hs:List (Nat×BS)) (ds:List Dy),(Hs.fill g1 hs ds).2=(Hs.fill g2 hs ds).2 /\
  ∀i y,(i,some y)∈(Hs.fill g2 hs ds).1->(∀c z,c∈hs.map (·.1)->(g1 c,some z)∈(Hs.fill g1 hs ds).1->κ.N (g1 c)/\uO κ (g1 c) z)->∃c z,i=g2 c/\c∈hs.map (·.1)/\(g1 c,some z)∈(Hs.fill g1 hs ds).1/\(y.own=true->z.own=true)/\(y.live=true->z.live=true)/\uO κ' i y
 | [],ds=>⟨rfl,fun i y hi=>by cases hi⟩
 | p::hs,ds=>by
  have h1:(p.2.fill g1 ds).2=(p.2.fill g2 ds).2:=(BS.qh g1 g2 p.2 ds);obtain ⟨h3,h4⟩:=Hs.xg h hs (p.2.fill g1 ds).2;unfold Hs.fill;simp only;rw [<-h1];refine ⟨h3,fun i y hi hz=>?_⟩;rcases List.mem_cons.1 hi with hi|hi
  .injection hi with hi1 hi2
   obtain ⟨z,hz0⟩:=BS.zid (g1:=g1) p.2 ds hi2.symm;obtain ⟨hN,hB⟩:=hz p.1 z (by simp) (by rw [hz0];exact List.mem_cons_self ..);obtain ⟨k1,k2⟩:=BS.xg h (h.go _ hN).2 p.2 ds;obtain ⟨y',k3,k4,k5,k6⟩:=k2 z hz0 hB;rw [<-hi2] at k3;cases k3;exact ⟨p.1,z,hi1,by simp,by rw [hz0];exact List.mem_cons_self ..,k4,k5,hi1▸k6⟩
  .obtain ⟨c,z,k1,k2,k3,k4⟩:=h4 i y hi fun c z hc hm=>hz c z (by rw [List.map_cons];exact List.mem_cons_of_mem _ hc) (List.mem_cons_of_mem _ hm)
   exact ⟨c,z,k1,by rw [List.map_cons];exact List.mem_cons_of_mem _ k2,List.mem_cons_of_mem _ k3,k4⟩
section
variable {P:Program} {E:Operand->XA} {H:Nat->Option XB}
theorem zbl {np nx c:Nat}:c∈news np nx↔np<=c/\c<np+(nx - np):=by
 unfold news;rw [List.mem_range'_1]
theorem zhF {op:Op} {f:FuncId} {ct:Ctr} {xs:List XA} {q:Nat} {x:TT ct.k.cs} {b:Bi} {y:Alts ct.alts} (hfn:FnC P f ct) (hin:zfv H xs q ct=some (x,b)) (hm:ct.m x=some y)
  (hop:∀{κ:Kn} {a:Act} {o':Oper},o'.op=op->(∀x,RepA κ (E x) (a.eval x))->∃vs:List Value,(execOp a.eval o').run P κ.w=.ok (.enter f vs.toArray) κ.w/\All2 (RepA κ) xs vs) :
  Says P E H op (zbz ct q b (sel ct.alts y)):=⟨fun {κ a o'} ho hE hH hW hf K Q hK=>by
 obtain ⟨avs,hrun,hargs⟩:=hop ho hE;have hq:¬κ.N q:=hf q (List.mem_cons_self ..);unfold zfv at hin;split at hin
 .rename_i ds b1 h1
  split at hin
  .rename_i es b' h2
   split at hin
   .rename_i x' h3
    cases hc:(b'.all (fun p=>Nat.blt p.1 ct.k.nx)&&(nodupB (ct.k.h.map fun p=>act 0 q b' p.1)&&ct.static))
    .rw [hc] at hin;cases hin
    .rw [hc,cond_true] at hin
     cases hin;simp only [Bool.and_eq_true] at hc;obtain ⟨f1,f2,f3⟩:=hc;have f2:=Zx f2;unfold Ctr.static at f3;rw [Bool.and_eq_true] at f3;have h3:=zkK _ h3
     let np:=ct.k.nx
     let g:=act 0 q b
     have glk:∀{c},κ.N (g c)->∃a',lk b c=some a'/\g c=a':=fun {c} hN=>by
      have hg:g c=(lk b c).getD q:=rfl;cases hl:lk b c with
      | none=>rw [hg,hl] at hN;exact absurd hN hq
      | some a'=>exact ⟨a',rfl,by rw [hg,hl];rfl⟩
     have glt:∀{c},κ.N (g c)->c<np:=fun {c} hN=>by
      obtain ⟨a',l1,_⟩:=glk hN;have:=List.all_eq_true.1 f1 _ (zcv l1);simpa [Nat.blt_eq] using this
     let κc:Kn:=⟨fun c=>κ.ρ (g c),fun c=>κ.N (g c),κ.R,κ.w⟩
     have hren:Ren κ κc g id:=⟨rfl,rfl,fun c hN=>⟨hN,rfl⟩⟩;obtain ⟨e1,k1⟩:=SHs.jw (bad:=q) hH h1 hargs;obtain ⟨e2,k2⟩:=Hs.jw (bad:=q) hH h2;obtain ⟨q1,q2⟩:=k1 b e2 es;rw [<-h3] at q1 q2;obtain ⟨q3,q4⟩:=SHs.xg hren (ct.k.e.map (·.2)) (dys ct.k.cs x);have q6:(SHs.fill id (ct.k.e.map (·.2)) (dys ct.k.cs x)).2=es:=q3.symm.trans q1;obtain ⟨q7,q8⟩:=k2 b (Ext.refl _) κc id hren [];rw [List.append_nil] at q7 q8;have hblocks:ct.blocks x=(Hs.fill id ct.k.h es).1:=by
      unfold Ctr.blocks Kp.fill;simp only;rw [q6]
     have hlook:∀{i z},look (ct.blocks x) i=some z->∃x0,i∈ct.k.h.map (·.1)/\H (g i)=some x0/\(z.own=true->x0.own=true)/\(z.live=true->x0.live=true)/\uO κc i z:=fun {i z} hi=>by
      rw [hblocks] at hi;obtain ⟨c,x0,z',m1,m2,m3,m4,m5,m6,m7⟩:=q8 i _ (J6 hi);cases m3;subst m1;exact ⟨x0,m2,m4,m5,m6,m7⟩
     have hHc:HOk κc (look (ct.blocks x)):=by
      refine ⟨fun {i z} hi=>?_,fun {i j z z' bb} hi hj l1 l2 b1 b2=>?_,fun {i z bb} hi l1 b1=>?_⟩
      .obtain ⟨x0,_,m2,_,_,m5⟩:=hlook hi
       exact ⟨(hH.blk m2).1,m5⟩
      .obtain ⟨x0,n1,m2,_,m4,m5⟩:=hlook hi
       obtain ⟨x0',n1',m2',_,m4',m5'⟩:=hlook hj;have:=hH.inj m2 m2' (m4 l1) (m4' l2) b1 b2;obtain ⟨p1,o1,rfl⟩:=List.mem_map.1 n1;obtain ⟨p2,o2,rfl⟩:=List.mem_map.1 n1';rw [Uz f2 o1 o2 this]
      .obtain ⟨x0,n1,m2,_,m4,m5⟩:=hlook hi
       exact hH.notR m2 (m4 l1) b1
     have hWc:WOk κc:=⟨hW.ult,hW.tab,np,fun id hid=>glt hid⟩;have hcall:=hfn κc x y hm avs (q4 _ q2) hHc hWc fun id hid=>glt hid;unfold Oper.wp;rw [hrun,Oper.upon_enter];refine Calls.mono hcall fun e w' hpost=>?_;obtain ⟨v,κ',rfl,rfl,e⟩:=hpost;show K (a.put o'.dst v) κ'.w;generalize hs:sel ct.alts y=s at e hf hK;have hwr:∀c,c∈ct.wr->c<np:=fun c hc=>by
      have:=List.all_eq_true.1 f3.1 c hc;simpa [Nat.blt_eq] using this
     have hnd:(s.a.h.map (·.1)).Nodup:=Zx (List.all_eq_true.1 f3.2 s.a (by rw [<-hs];exact zfd ct.alts y))
     let cnt:=s.a.nx - np
     let g2:=rnm np q b
     have g2lt:∀{c},c<np->g2 c=g c:=fun {c} hc=>by
      show (bif Nat.blt c np then act 0 q b c else _)=_;rw [show Nat.blt c np=true from Nat.blt_eq▸hc];rfl
     have g2ge:∀{c},¬c<np->g2 c=q+1+(c - np):=fun {c} hc=>by
      show (bif Nat.blt c np then act 0 q b c else _)=_;have:Nat.blt c np=false:=by cases hb:Nat.blt c np;rfl;exact absurd (by rwa [Nat.blt_eq] at hb) hc
      rw [this];rfl
     have hid:∀id,q<=id->id<q+1+cnt->¬κ.N id:=fun id h1 h2=>by
      refine hf id ?_;rcases Nat.eq_or_lt_of_le h1 with h|h
      .rw [<-h];exact List.mem_cons_self ..
      .exact List.mem_cons_of_mem _ (zbl.2 ⟨h,by show id<q+1+(q+1+cnt - (q+1));omega⟩)
     have hnew:∀c,κ'.N c->(c<np/\κ.N (g c))\/(np<=c/\c<np+cnt):=fun c hc=>by
      rcases e.new c hc with h|h
      .exact .inl ⟨glt h,h⟩
      .exact .inr (zbl.1 h)
     let κ'':Kn:=⟨fun i=>if q<i/\i<q+1+cnt then κ'.ρ (np+(i - (q+1))) else κ.ρ i,fun i=>κ.N i\/(q<i/\i<q+1+cnt),κ'.R,κ'.w⟩
     have hold:∀id,κ.N id->κ''.N id/\κ''.ρ id=κ.ρ id:=fun id hN=>⟨.inl hN,if_neg fun h=>hid id (by omega) h.2 hN⟩;have hren2:Ren κ' κ'' id g2:=⟨rfl,rfl,fun c hN=>by
      rcases hnew c hN with ⟨h1,h2⟩|⟨h1,h2⟩
      .rw [g2lt h1]
       exact ⟨.inl h2,(hold _ h2).2.trans (e.ext c h2).2.symm⟩
      .rw [g2ge (by omega)]
       have h3:q<q+1+(c - np)/\q+1+(c - np)<q+1+cnt:=by omega
       refine ⟨.inr h3,(if_pos h3).trans ?_⟩;show κ'.ρ (np+(q+1+(c - np) - (q+1)))=κ'.ρ c
       congr 1
       omega⟩
     have htouch:∀bb,Touch κc (look (ct.blocks x)) ct.wr bb->Touch κ H (ct.wr.map g) bb:=fun bb ⟨c,z,t1,t2,t3,t4⟩=>by
      obtain ⟨x0,_,m2,m3,_,_⟩:=hlook t2;exact ⟨g c,x0,List.mem_map_of_mem t1,m2,m3 t3,t4⟩
     obtain ⟨r1,r2⟩:=RS.xg hren2 s.a.r (dys s.a.cs s.x);have hr1:(s.a.r.fill g2 (dys s.a.cs s.x)).2=(s.a.r.fill id (dys s.a.cs s.x)).2:=r1.symm
     let rest:=(s.a.r.fill id (dys s.a.cs s.x)).2
     have hbl:(zbz ct q b s).bl=(Hs.fill g2 s.a.h rest).1++Uy (s.a.gone.map g2):=by
      show (Hs.fill g2 s.a.h (s.a.r.fill g2 (dys s.a.cs s.x)).2).1++_=_;rw [hr1]
     have hbc:(s.upd id (news np s.a.nx) ct.wr).bl=(Hs.fill id s.a.h rest).1++Uy (s.a.gone.map id):=rfl;have hkc:keys (Hs.fill id s.a.h rest).1=s.a.h.map (·.1):=Hs.JL id s.a.h rest;have hin':∀c z,(c,some z)∈(Hs.fill id s.a.h rest).1->look (s.upd id (news np s.a.nx) ct.wr).bl c=some z:=fun c z hcz=>by
      rw [hbc,jI (List.mem_map_of_mem (f:=(·.1)) hcz)];exact zcw (by rw [hkc];exact hnd) hcz
     obtain ⟨_,r4⟩:=Hs.xg hren2 s.a.h rest;have hout:∀{i z},look (zbz ct q b s).bl i=some z->∃c z0,i=g2 c/\look (s.upd id (news np s.a.nx) ct.wr).bl c=some z0/\(z.own=true->z0.own=true)/\(z.live=true->z0.live=true)/\uO κ'' i z:=fun {i z} hi=>by
      rw [hbl] at hi;obtain ⟨c,z0,m1,m2,m3,m4,m5,m6⟩:=r4 i z (J6 (zaw hi)) fun c z0 _ hcz=>e.hok.blk (hin' c z0 hcz);exact ⟨c,z0,m1,hin' c z0 m3,m4,m5,m6⟩
     refine hK v κ'' ⟨hold,fun id h=>h.imp (fun h=>h) fun h=>List.mem_cons_of_mem _ (zbl.2 ⟨h.1,by show id<q+1+(q+1+cnt - (q+1));omega⟩),e.R,fun bb hb=>(e.Rn bb hb).imp (fun h=>h) (Or.imp (htouch bb) fun h=>h),e.fr.mono fun bb _=>htouch bb,r2 v e.val,⟨fun {i z} hi=>?_,fun {i j z z' bb} hi hj l1 l2 b1 b2=>?_,fun {i z bb} hi l1 b1=>?_⟩,fun i z bb hi l1 b1=>?_,fun i hi=>?_⟩
     .obtain ⟨c,z0,m1,m2,_,_,m5⟩:=hout hi
      subst m1;exact ⟨(hren2.go c (e.hok.blk m2).1).1,m5⟩
     .obtain ⟨c,z0,rfl,m2,_,m4,_⟩:=hout hi
      obtain ⟨c',z0',rfl,m2',_,m4',_⟩:=hout hj;rw [(hren2.go c (e.hok.blk m2).1).2] at b1;rw [(hren2.go c' (e.hok.blk m2').1).2] at b2;rw [e.hok.inj m2 m2' (m4 l1) (m4' l2) b1 b2]
     .obtain ⟨c,z0,rfl,m2,_,m4,_⟩:=hout hi
      rw [(hren2.go c (e.hok.blk m2).1).2] at b1;exact e.hok.notR m2 (m4 l1) b1
     .obtain ⟨c,z0,rfl,m2,_,m4,_⟩:=hout hi
      rw [(hren2.go c (e.hok.blk m2).1).2] at b1;exact (e.old c z0 bb m2 (m4 l1) b1).imp (htouch bb) fun h=>h
     .obtain ⟨c,hc,rfl⟩:=List.mem_map.1 hi
      have h4:=e.wr c hc;rw [hbc] at h4;rw [hbl];unfold keys at h4 ⊢;rw [List.map_append,List.mem_append] at h4 ⊢;have hgc:g c=g2 c:=(g2lt (hwr c hc)).symm;rcases h4 with h4|h4
      .left
       have h5:c∈s.a.h.map (·.1):=by rw [<-hkc];exact h4
       show g c∈keys (Hs.fill g2 s.a.h rest).1;rw [Hs.JL,hgc];obtain ⟨p,hp,rfl⟩:=List.mem_map.1 h5;exact List.mem_map.2 ⟨p,hp,rfl⟩
      .right
       have h5:c∈s.a.gone.map id:=by
        have:c∈keys (Uy (s.a.gone.map id)):=h4;rwa [VW] at this
       rw [List.map_id] at h5;show g c∈keys (Uy _);rw [VW,hgc];exact List.mem_map_of_mem h5
   .cases hin
  .cases hin
 .cases hin⟩
end
end G
end Go.Proofs.YtbijabmjbgplbaaGreatDoor
namespace Go.Proofs.YtbijabmjbgplbaaGreatDoor
open Go.ChangeShapes Go.WideShapes Go.RowKit
namespace G
section
variable {P:Program} {E:Operand->XA} {H:Nat->Option XB} {R:Type} {K:Upd->Option R} {r:R} {m:Option R} {x y:Operand} {t u xT yT:TypeId} {q:Nat}
theorem Qr {a:Act} {o':Oper} {w w':World} {v':Value} (ho:o'.op=.call { callee:=.builtin .append,args:=#[x,y],argTypes:=#[t,u] }) (hrun:(Builtin.append_ #[t,u] o'.type #[a.eval x,a.eval y]).run P w=.ok v' w') :
  (execOp a.eval o').run P w=.ok (.value v') w':=by
 simp only [execOp,ho,resolve,invoke,builtin,Sem.run_bind,Sem.run_pure,Result.andThen_ok,List.map_toArray,List.map_cons,List.map_nil,hrun]
theorem zl5 {κ:Kn} {v:XV} {val:Value} {w':World} {b0:Option Nat} (hH:HOk κ H) (hfr:Fr (fun _=>False) κ.w w') (hb:∀b,b0=some b->κ.w.heap.size<=b/\b<w'.heap.size)
  (hval:RepX ⟨κ.ρ,κ.N,fun b=>κ.R b\/b0=some b,w'⟩ v val):Eff κ ⟨κ.ρ,κ.N,fun b=>κ.R b\/b0=some b,w'⟩ H v.x val :=
 ⟨fun _ h=>⟨h,rfl⟩,fun _ h=>.inl h,fun _ h=>.inl h,fun b h=>h.imp (fun h=>h) fun h=>.inr (hb b h),hfr.mono fun _ _ h=>h.elim,hval,⟨fun h=>(by cases h),fun h _ _ _ _ _=>(by cases h),fun h _ _=>(by cases h)⟩,fun _ _ _ h=>(by cases h),fun _ h=>(by cases h)⟩
theorem zdg {κ:Kn} {e:TypeId} {by_:Nat} {c:EC} {l1 l2:List (T c)} {A:Option Addr} {v2:Value} {ty:TypeId} (hT:slOf P t=some (e,szC c,by_)) (h1:RepF κ.R κ.w (.ls (cv c) l1) (.slice A l1.length l1.length)) (h2:Src κ.R κ.w c l2 v2) (hl:l1.length+l2.length<=4000000) (hb:by_<=33554432) :
  ∃v' w' b0,(Builtin.append_ #[t,t] ty #[.slice A l1.length l1.length,v2]).run P κ.w=.ok v' w'/\Fr (fun _=>False) κ.w w'/\(∀b,b0=some b->κ.w.heap.size<=b/\b<w'.heap.size)/\RepF (fun b=>κ.R b\/b0=some b) w' (.ls (cv c) (l1++l2)) v':=by
 have:TSl P t e (szC c) by_:=⟨hT⟩;have El:=TSl.elem (P:=P) (t:=t) (e:=e) (sz:=szC c) (bytes:=by_);have hpos:=El.pos;obtain ⟨A1,cap1,olds,hv1,_,_,g3',hfl1,he1⟩:=zgd hpos h1;simp only [Value.slice.injEq] at hv1;obtain ⟨rfl,_,rfl⟩:=hv1;obtain ⟨Ad,cap,news,hv2,g1,g2,g3,g4,g5⟩:=h2;have hn:=g5.len;have hlen1:=he1.len;have hfit:(l1.length+l2.length)*by_<=140737488355328:=Nat.le_trans (Nat.mul_le_mul hl hb) (by decide);have hmax:l1.length+l2.length<=maxLen:=by unfold maxLen;omega
 subst hv2;rcases Nat.eq_zero_or_pos l2.length with h0|h0
 .have hrun:=Kit.zee (P:=P) El κ.w ty A l1.length l1.length (Nat.le_refl _) Ad cap
  have:l2=[]:=List.eq_nil_of_length_eq_zero h0;subst this;refine ⟨_,κ.w,none,hrun,Fr.refl _ _,nofun,?_⟩;rw [List.append_nil];exact h1.keep (fun _ _ _=>rfl) (Nat.le_refl _) fun _ h=>.inl h
 .have fin:∀v' w',(Builtin.append_ #[t,t] ty #[.slice A l1.length l1.length,.slice Ad l2.length cap]).run P κ.w=.ok v' w'->w'.ownsRow κ.w.heap.size e (szC c) v' (l1.length+l2.length) (olds++news)->κ.w.grownBy w' none ->
    ∃v' w' b0,(Builtin.append_ #[t,t] ty #[.slice A l1.length l1.length,.slice Ad l2.length cap]).run P κ.w=.ok v' w'/\Fr (fun _=>False) κ.w w'/\(∀b,b0=some b->κ.w.heap.size<=b/\b<w'.heap.size)/\RepF (fun b=>κ.R b\/b0=some b) w' (.ls (cv c) (l1++l2)) v':=fun v' w' h1 h2 h3=>by
   have hf:Fr (fun _=>False) κ.w w':=Fr.grown h3 fun k hk=>by cases hk
   obtain ⟨A',c',hsl,_⟩:=Kit.Qq h2;have ho:=ku.of h2;obtain ⟨A2,c2,k1,k2,k3,k4⟩:=ho.slice;refine ⟨v',w',yV v',h1,hf,fun b hb=>⟨(h2.lt b (Wi hsl hb)).1,ho.lt hb⟩,?_⟩;have hel:Xq (fun b=>κ.R b\/yV v'=some b) w' c (l1++l2) (olds++news):=by
    show All2 _ _ _;rw [JZ];exact All2.append (All2.imp (fun _ _ k=>k.keep (fun b _ hb=>hf.block b hb fun e=>e) hf.size fun _ h=>.inl h) he1) (All2.imp (fun _ _ k=>k.keep (fun b _ hb=>hf.block b hb fun e=>e) hf.size fun _ h=>.inl h) g5)
   rw [k1];rw [<-List.length_append];refine znV (c:=c) (by simpa using k2) k3 (fun e=>?_) k4 (by rw [k1,<-List.length_append] at hel;exact hel) hpos fun b o e _=>.inr ?_
   .subst e
    rcases ho.2 with ⟨hz,_⟩|⟨g,cp,cur,e2,_⟩
    .omega
    .rw [k1] at e2;cases e2
   .subst e
    cases c2 with
    | zero=>omega
    | succ c2=>rfl
  cases A with
  | none =>
   have hl0:l1.length=0:=by have:=g3' rfl;omega
   have ho0:olds=[]:=List.eq_nil_of_length_eq_zero (by rw [hlen1,hl0,Nat.zero_mul]);obtain ⟨v',w',hrun,ho,hg,_⟩:=Kit.ze_ El κ.w ty κ.w.heap.size (.slice none 0 0) 0 [] ⟨by simp,.inl ⟨rfl,rfl⟩⟩ Ad l2.length cap κ.w.heap.size news g4 hn g5.one (by omega) (by rw [hl0] at hfit;simpa using hfit) (Nat.le_refl _);refine fin v' w' (by rw [hl0];exact hrun) (by rw [hl0,ho0];exact ho) hg
  | some a0 =>
   obtain ⟨v',w',hrun,ho,hg⟩:=Kit.za5 El κ.w ty κ.w.heap.size (some a0) l1.length κ.w.heap.size olds hfl1 hlen1 Ad l2.length cap κ.w.heap.size news g4 hn h0 hmax hfit (Nat.le_refl _) rfl;exact fin v' w' hrun ho hg
theorem zgr (h:zev P E H t u x y q K=some m) (hm:m=some r):∃v,K v=some r/\Says P E H (.call { callee:=.builtin .append,args:=#[x,y],argTypes:=#[t,u] }) v:=by
 unfold zev at h;split at h
 .rename_i e sz by_ hT
  split at h
  .rename_i c l2 hl2
   cases hc:(Nat.beq t u&&(Nat.beq (szC c) sz&&Nat.ble by_ 33554432))
   .rw [hc] at h;cases h
   .rw [hc,cond_true] at h
    simp only [Bool.and_eq_true] at hc;obtain ⟨h1,h2,h3⟩:=hc;have h1:=Nat.eq_of_beq_eq_true h1;have h2:=Nat.eq_of_beq_eq_true h2;have h3:=Nat.le_of_ble_eq_true h3;subst h1 h2;have hpos:0<szC c:=(TSl.elem (k:=(⟨hT⟩:TSl P t e (szC c) by_))).pos;split at h
    .rename_i hx
     cases h;obtain ⟨hg,hK⟩:=Md.Xb hm;refine ⟨_,hK,⟨fun {κ a o'} ho hE hH hW hf K Q hKK=>?_⟩⟩;have hq:¬κ.N q:=hf q (List.mem_singleton.2 rfl);obtain ⟨v',w',vs',k1,k2,k3,k4,k5,k6⟩:=zf9 (κ:=κ) (ty:=o'.type) rfl hT (v:=.slice none 0 0) (l1:=[]) (vs:=[]) ⟨by simp,.inl ⟨rfl,none,rfl⟩⟩ .nil (Qo hE hH hpos hl2) (by simpa using hg) h3;have hx':a.eval x=.slice none 0 0:=uh hE hx rfl;rw [<-hx'] at k1;unfold Oper.wp;rw [Qr ho k1];have hfr:Fr (Touch κ H []) κ.w w':=k4.mono fun b _ hb=>by cases hb
     refine hKK _ (κ.bind q v' w') (XJ (x:=.row e c l2) (v:=.one (.own q)) (wr:=[]) hH hW hq hfr ⟨vs',?_,?_⟩ ⟨.inr rfl,jH.symm,k6⟩ fun _ b hb=>.inr ((k5 b hb).resolve_left (by intro h;cases h)))
     .rw [jH]
      rw [List.nil_append] at k2;exact k2
     .rw [List.nil_append] at k3
      exact All2.imp (fun _ _ k=>RepF.mono (QF (u:=v') (w':=w') hH hq hfr) k) k3
    .rename_i id hx
     split at h
     .rename_i e' c' l1 hb
      split at h
      .rename_i hcc
       subst hcc;cases he:Nat.beq e e'
       .rw [he] at h;cases h
       .rw [he,cond_true] at h
        cases h;have he:=Nat.eq_of_beq_eq_true he;subst he;obtain ⟨hg,hK⟩:=Md.Xb hm;refine ⟨_,hK,⟨fun {κ a o'} ho hE hH hW hf K Q hKK=>?_⟩⟩;have hq:¬κ.N q:=hf q (List.mem_singleton.2 rfl);obtain ⟨hN,vs,h4,h5⟩:=hH.blk hb;obtain ⟨v',w',vs',k1,k2,k3,k4,k5,k6⟩:=zf9 (κ:=κ) (ty:=o'.type) rfl hT h4 h5 (Qo hE hH hpos hl2) hg h3;rw [<-(hE1 hE hx).2.1] at k1;unfold Oper.wp;rw [Qr ho k1];have hfr:Fr (Touch κ H [id]) κ.w w':=k4.mono fun b _ hb'=>⟨id,_,List.mem_singleton.2 rfl,hb,rfl,hb'⟩;refine hKK _ (κ.bind q v' w') (XJ (x:=.row e c' (l1++l2)) (v:=.one (.own q)) (wr:=[id]) hH hW hq hfr ⟨vs',?_,?_⟩ ⟨.inr rfl,jH.symm,k6⟩ fun _ b hb'=>(k5 b hb').imp (fun h=>⟨id,_,List.mem_singleton.2 rfl,hb,rfl,h⟩) fun h=>h)
        .rw [jH];exact k2
        .exact All2.imp (fun _ _ k=>RepF.mono (QF (u:=v') (w':=w') hH hq hfr) k) k3
      .cases h
     .cases h
    .rename_i c' l1 hx
     split at h
     .rename_i hcc
      subst hcc;cases h;obtain ⟨hg,hK⟩:=Md.Xb hm;refine ⟨_,hK,⟨fun {κ a o'} ho hE hH hW hf K Q hKK=>?_⟩⟩;have hr:=hE1 hE hx;obtain ⟨A,e1,e2⟩:∃A,a.eval x=.slice A l1.length l1.length/\RepF κ.R κ.w (.ls (cv c') l1) (.slice A l1.length l1.length):=by
       have hr:RepF κ.R κ.w (.full l1.length (lsEl (cv c') l1)) (a.eval x):=hr;generalize a.eval x=v at hr;cases hr with
       | full n el A h=>exact ⟨A,rfl,h⟩
      obtain ⟨v',w',b0,k1,k2,k3,k4⟩:=zdg (κ:=κ) (ty:=o'.type) hT e2 (Qo hE hH hpos hl2) hg h3;rw [<-e1] at k1;unfold Oper.wp;rw [Qr ho k1];exact hKK _ ⟨κ.ρ,κ.N,fun b=>κ.R b\/b0=some b,w'⟩ (zl5 (v:=.ls c' (l1++l2)) hH k2 k3 k4)
     .cases h
    .cases h
  .cases h
 .cases h
def u8El (P:Program) (e:TypeId):Bool :=
 match P.info? e with
 | some i=>match i.zero with
  | some (.int .u8 n)=>decide (n=0)&&(Nat.beq i.size 1&&Nat.beq i.bytes 1)
  | _=>false
 | none=>false
theorem zol {e:TypeId} (h:u8El P e=true):∃i,P.info? e=some i/\i.zero=some (.int .u8 0)/\i.size=1/\i.bytes=1:=by
 unfold u8El at h;split at h
 .rename_i i hi
  split at h
  .rename_i n hz
   simp only [Bool.and_eq_true,decide_eq_true_eq] at h;obtain ⟨rfl,h2,h3⟩:=h;exact ⟨i,hi,hz,Nat.eq_of_beq_eq_true h2,Nat.eq_of_beq_eq_true h3⟩
  .cases h
 .cases h
theorem zdM (R:Nat->Prop) (w:World) (l:List UInt8):Xq R w .u8 l (Lib.strCells ⟨l.toArray⟩):=by
 unfold Xq Lib.strCells;rw [zeT];show All2 _ _ (l.map _)
 induction l with
 | nil=>exact .nil
 | cons b l ih=>exact .cons (.val _ rfl) ih
theorem za6 {κ:Kn} {e:TypeId} {l1 l2:List UInt8} {v:Value} {vs:List Value} {ty:TypeId} (ht:P.underlying t=some (.slice e)) (hu:P.underlying u=some .string) (he:u8El P e=true) (h1:ku κ.w e 1 v l1.length vs) (hel:Xq κ.R κ.w .u8 l1 vs) (hl:l1.length+l2.length<=4000000) :
  ∃v' w' vs',(Builtin.append_ #[t,u] ty #[v,Sv l2]).run P κ.w=.ok v' w'/\ku w' e 1 v' (l1++l2).length vs'/\Xq κ.R κ.w .u8 (l1++l2) vs'/\Fr (fun b=>yV v=some b) κ.w w'/\(∀b,yV v'=some b->yV v=some b\/κ.w.heap.size<=b)/\v'.oneCell'=true:=by
 obtain ⟨i,hi,hz,hsize,hby⟩:=zol he;have hs:(⟨l2.toArray⟩:ByteArray).size=l2.length:=by simp [ByteArray.size]
 have hmax:l1.length+l2.length<=maxLen:=by unfold maxLen;omega
 have hel2:Xq κ.R κ.w .u8 (l1++l2) (vs++Lib.strCells ⟨l2.toArray⟩):=by
  show All2 _ _ _;rw [JZ];exact All2.append hel (zdM _ _ _)
 rcases h1.2 with ⟨hl0,A,rfl⟩|⟨g,cp,cur,rfl,k1,k2,k3,k4,k5⟩
 .have hl1:l1=[]:=List.eq_nil_of_length_eq_zero hl0
  have hvs:vs=[]:=List.eq_nil_of_length_eq_zero (by rw [hel.len,hl0];simp);subst hl1 hvs;have key:∀v' w',(Builtin.append_ #[t,u] ty #[.slice A 0 0,Sv l2]).run P κ.w=.ok v' w'->w'.ownsRow κ.w.heap.size e 1 v' l2.length (Lib.strCells ⟨l2.toArray⟩)->κ.w.grownBy w' none ->
    ∃v' w' vs',(Builtin.append_ #[t,u] ty #[.slice A 0 0,Sv l2]).run P κ.w=.ok v' w'/\ku w' e 1 v' ([]++l2).length vs'/\Xq κ.R κ.w .u8 ([]++l2) vs'/\Fr (fun b=>yV (.slice A 0 0)=some b) κ.w w'/\(∀b,yV v'=some b->yV (.slice A 0 0)=some b\/κ.w.heap.size<=b)/\v'.oneCell'=true:=fun v' w' hr ho hg=>by
   obtain ⟨A',c',hsl,_⟩:=Kit.Qq ho;exact ⟨v',w',_,hr,ku.of ho,zdM _ _ _,(Fr.grown hg fun k hk=>by cases hk),fun b hb=>.inr (ho.lt b (Wi hsl hb)).1,by rw [hsl];rfl⟩
  cases A with
  | none =>
   obtain ⟨v',w',r1,r2,r3,_⟩:=Lib.run_append_own_string (P:=P) κ.w κ.w.heap.size t u ty e i ht hu hi hz hsize hby (.slice none 0 0) 0 [] ⟨by simp,.inl ⟨rfl,rfl⟩⟩ ⟨l2.toArray⟩ (by rw [hs];simpa using hmax) (by rw [hs];simp at hl;omega) (Nat.le_refl _);rw [hs] at r2;exact key v' w' r1 (by simpa using r2) r3
  | some a0 =>
   by_cases h0:l2=[]
   .subst h0
    refine ⟨.slice (some a0) 0 0,κ.w,[],?_,⟨by simp,.inl ⟨rfl,_,rfl⟩⟩,.nil,Fr.refl _ _,fun b hb=>.inl hb,rfl⟩;have hf:=Lib.run_firstCells_string (P:=P) κ.w 1 ⟨#[]⟩;have hf:(Builtin.firstCells 1 0 (.string ⟨#[]⟩)).run P κ.w=.ok #[] κ.w:=hf;have hs0:(ByteArray.mk #[]).size=0:=rfl;simp [Builtin.append_,run_underlying ht,run_underlying hu,sizeOf,typeInfo,hi,hsize,Builtin.lenOf,hf,hs0,storeCells]
   .have hpos:=List.length_pos_iff.2 h0
    have hr:=Lib.run_append_grow_string (P:=P) κ.w t u ty e i (.int .u8 0) ht hu hi hz a0 0 0 [] (by simp) (fun j v h=>by simp at h) ⟨l2.toArray⟩ (by rw [hs];omega) (by rw [hs];simp at hl;omega) (by rw [hby];exact growslice_fits (by omega) (by rw [hs];simp at hl;omega));simp only [hs,Nat.zero_add] at hr;refine key _ _ hr ⟨by simp [Lib.strCells],.inr ⟨κ.w.heap.size,_,_,rfl,Nat.le_refl _,heap_alloc_new κ.w.drew _,grownCap_ge κ.w l2.length 0 e,grownCap_le_maxLen κ.w l2.length 0 e (by simpa using hmax),?_,?_⟩⟩ ⟨rfl,rfl,rfl,by simp,fun k hk _=>heap_alloc_old κ.w.drew _ hk⟩
    .have hz1:(Value.int IntKind.u8 0).cells.size=1:=rfl
     have:=grownCap_ge κ.w l2.length 0 e;simp only [Array.size_append,List.size_toArray,size_zeroCells,hz1,Lib.strCells_length,hs,List.length_nil];omega
    .simp only [Array.toList_append,List.toList_toArray,List.nil_append]
     rw [show l2.length*1=(Lib.strCells ⟨l2.toArray⟩).length by rw [Lib.strCells_length,hs,Nat.mul_one]];exact List.take_left
 .obtain ⟨v',w',r1,r2,r3,_⟩:=Lib.run_append_own_string (P:=P) κ.w 0 t u ty e i ht hu hi hz hsize hby (.slice (some ⟨g,0,none⟩) l1.length (cp+1)) l1.length vs ⟨h1.1,.inr ⟨g,cp+1,cur,rfl,Nat.zero_le _,k1,k2,k3,k4,k5⟩⟩ ⟨l2.toArray⟩ (by rw [hs];exact hmax) (by rw [hs];omega) (Nat.zero_le _)
  rw [hs] at r2;obtain ⟨A',c',hsl,_⟩:=Kit.Qq r2;refine ⟨v',w',vs++Lib.strCells ⟨l2.toArray⟩,r1,by rw [List.length_append];exact ku.of r2,hel2,Fr.grown r3 fun k hk=>by simpa [Value.ownBlock,yV] using hk,fun b hb=>?_,by rw [hsl];rfl⟩;have hb:=Wi hsl hb;have hown:κ.w.ownsRow 0 e 1 (.slice (some ⟨g,0,none⟩) l1.length (cp+1)) l1.length vs:=⟨h1.1,.inr ⟨g,cp+1,cur,rfl,Nat.zero_le _,k1,k2,k3,k4,k5⟩⟩;have h63:l1.length+l2.length<=maxLen:=hmax
  by_cases hroom:l1.length+l2.length<=cp+1
  .have hr:=Lib.run_append_room_string (P:=P) κ.w t u ty e i ht hu hi hsize g l1.length (cp+1) cur k1 ⟨l2.toArray⟩ (by rw [hs];exact hroom) (by rw [hs,k4];omega)
   have r1':=r1.symm.trans hr;cases r1';exact .inl hb
  .have hr:=Lib.run_append_grow_string (P:=P) κ.w t u ty e i (.int .u8 0) ht hu hi hz ⟨g,0,none⟩ l1.length (cp+1) vs (by rw [hsize];exact h1.1) (fun j v=>hown.cells (g:=g) rfl j v) ⟨l2.toArray⟩ (by rw [hs];omega) (by rw [hs];omega) (by rw [hby];exact growslice_fits (by rw [hs];omega) (by rw [hs];omega))
   have r1':=r1.symm.trans hr;cases r1';cases hb;exact .inr (Nat.le_refl _)
def zcH (P:Program) (E:Operand->XA) (H:Nat->Option XB) (t u:TypeId) (x y:Operand) (q:Nat) (K:Upd->Option R):Option (Option R) :=
 match P.underlying t,P.underlying u,E y with
 | some (.slice e),some .string,.one (.s l2) =>
  bif u8El P e then
   (match E x with
   | .one .nil=>some (Md.ifp (l2.length<=4000000) (K ⟨.one (.own q),[(q,some (.row e .u8 l2))],[q],[]⟩))
   | .one (.own id)=>match H id with
    | some (.row e' c' l1)=>if h:c'=.u8 then (bif Nat.beq e e' then some (Md.ifp (l1.length+l2.length<=4000000) (K ⟨.one (.own q),[(q,some (.row e .u8 (h▸l1++l2))),(id,none)],[q],[id]⟩)) else none) else none
    | _=>none
   | _=>none) else none
 | _,_,_=>none
theorem zew (h:zcH P E H t u x y q K=some m) (hm:m=some r):∃v,K v=some r/\Says P E H (.call { callee:=.builtin .append,args:=#[x,y],argTypes:=#[t,u] }) v:=by
 unfold zcH at h;split at h
 .rename_i e l2 ht hu hy
  cases hc:u8El P e
  .rw [hc] at h;cases h
  .rw [hc,cond_true] at h
   split at h
   .rename_i hx
    cases h;obtain ⟨hg,hK⟩:=Md.Xb hm;refine ⟨_,hK,⟨fun {κ a o'} ho hE hH hW hf K Q hKK=>?_⟩⟩;have hq:¬κ.N q:=hf q (List.mem_singleton.2 rfl);obtain ⟨v',w',vs',k1,k2,k3,k4,k5,k6⟩:=za6 (κ:=κ) (ty:=o'.type) (l1:=[]) (l2:=l2) (v:=.slice none 0 0) (vs:=[]) ht hu hc ⟨by simp,.inl ⟨rfl,none,rfl⟩⟩ .nil (by simpa using hg);have hx':a.eval x=.slice none 0 0:=uh hE hx rfl;have hy':a.eval y=Sv l2:=uh hE hy rfl;rw [<-hx',<-hy'] at k1;unfold Oper.wp;rw [Qr ho k1];have hfr:Fr (Touch κ H []) κ.w w':=k4.mono fun b _ hb=>by cases hb
    refine hKK _ (κ.bind q v' w') (XJ (x:=.row e .u8 l2) (v:=.one (.own q)) (wr:=[]) hH hW hq hfr ⟨vs',?_,?_⟩ ⟨.inr rfl,jH.symm,k6⟩ fun _ b hb=>.inr ((k5 b hb).resolve_left (by intro h;cases h)))
    .rw [jH]
     rw [List.nil_append] at k2;exact k2
    .rw [List.nil_append] at k3
     exact All2.imp (fun _ _ k=>RepF.mono (QF (u:=v') (w':=w') hH hq hfr) k) k3
   .rename_i id hx
    split at h
    .rename_i e' c' l1 hb
     split at h
     .rename_i hcc
      subst hcc;cases he:Nat.beq e e'
      .rw [he] at h;cases h
      .rw [he,cond_true] at h
       cases h;have he:=Nat.eq_of_beq_eq_true he;subst he;obtain ⟨hg,hK⟩:=Md.Xb hm;refine ⟨_,hK,⟨fun {κ a o'} ho hE hH hW hf K Q hKK=>?_⟩⟩;have hq:¬κ.N q:=hf q (List.mem_singleton.2 rfl);obtain ⟨hN,vs,h4,h5⟩:=hH.blk hb;obtain ⟨v',w',vs',k1,k2,k3,k4,k5,k6⟩:=za6 (κ:=κ) (ty:=o'.type) (l2:=l2) ht hu hc h4 h5 hg;have hy':a.eval y=Sv l2:=uh hE hy rfl;rw [<-(hE1 hE hx).2.1,<-hy'] at k1;unfold Oper.wp;rw [Qr ho k1];have hfr:Fr (Touch κ H [id]) κ.w w':=k4.mono fun b _ hb'=>⟨id,_,List.mem_singleton.2 rfl,hb,rfl,hb'⟩;refine hKK _ (κ.bind q v' w') (XJ (x:=.row e .u8 (l1++l2)) (v:=.one (.own q)) (wr:=[id]) hH hW hq hfr ⟨vs',?_,?_⟩ ⟨.inr rfl,jH.symm,k6⟩ fun _ b hb'=>(k5 b hb').imp (fun h=>⟨id,_,List.mem_singleton.2 rfl,hb,rfl,h⟩) fun h=>h)
       .rw [jH];exact k2
       .exact All2.imp (fun _ _ k=>RepF.mono (QF (u:=v') (w':=w') hH hq hfr) k) k3
     .cases h
    .cases h
   .cases h
 .cases h
def zfc:Operand->Operand->Bool
 | .tmp a,.tmp b=>Nat.beq a b
 | _,_=>false
def zaI (P:Program) (E:Operand->XA) (t:TypeId) (x y:Operand) (q:Nat) (K:Upd->Option R):Option (Option R) :=
 match slOf P t with
 | some (e,sz,by_) =>
  match ecT e,zci P e with
  | some c,some zs =>
   match mk c zs with
   | some x0 =>
    bif Nat.beq (szC c) sz&&Nat.ble by_ 4096 then
     (
      bif zfc x y then bnd E x fun n=>Md.ifp (n<=16000000) (K ⟨.one (.own q),[(q,some (.row e c (List.replicate n x0)))],[q],[]⟩)
      else match bnd E y (fun _=>(none:Option R)) with
      | some _=>bnd E x fun n=>(bnd E y fun c2=>Md.ifp (c2<=16000000) (Md.ifp (n<=c2) (K ⟨.one (.own q),[(q,some (.row e c (List.replicate n x0)))],[q],[]⟩))).getD none
      | none=>none) else none
   | none=>none
  | _,_=>none
 | none=>none
theorem zif {c:EC} {x0:T c} {zs vs:List Value} {R:Nat->Prop} {w:World} {n:Nat} (h0:0<szC c) (hz:All2 (RepF R w) (cv c x0) zs) (hv:vs.length=n*szC c) (hg:∀i j,i<n->j<szC c->vs[i*szC c+j]?=zs[j]?):Xq R w c (List.replicate n x0) vs:=by
 refine All2.of (by rw [Ux,List.length_replicate,hv]) fun k f u hf hu=>?_;have hlt:k<n*szC c:=by rw [<-hv];exact (List.getElem?_eq_some_iff.1 hu).1
 have h1:k/szC c<n:=Nat.div_lt_of_lt_mul (by rw [Nat.mul_comm];exact hlt);have h2:k%szC c<szC c:=Nat.mod_lt _ h0;have h3:k=k/szC c*szC c+k%szC c:=by rw [Nat.mul_comm];exact (Nat.div_add_mod k _).symm
 rw [h3,zaO c _ _ _ (by rw [List.length_replicate];exact h1) h2] at hf;rw [h3,hg _ _ h1 h2] at hu;have h4:(List.replicate n x0).getD (k/szC c) default=x0:=by simp [List.getD,h1]
 rw [h4] at hf;obtain ⟨u',h5,h6⟩:=hz.get hf;rw [h5] at hu;cases hu;exact h6
theorem zcy {e by_:Nat} {c:EC} {zs:List XV} {x0:T c} {n c2:Nat} (hT:slOf P t=some (e,szC c,by_)) (hz:zci P e=some zs) (hx0:mk c zs=some x0) (hby:by_<=4096) (hc:c2<=16000000) (hn:n<=c2)
  (h1:∀{κ:Kn} {a:Act},(∀x,RepA κ (E x) (a.eval x))->∃k,a.eval x=.int k (n:Int)) (h2:∀{κ:Kn} {a:Act},(∀x,RepA κ (E x) (a.eval x))->∃k,a.eval y=.int k (c2:Int)) :
  Says P E H (.makeSlice t x y) ⟨.one (.own q),[(q,some (.row e c (List.replicate n x0)))],[q],[]⟩:=⟨fun {κ a o'} ho hE hH hW hf K Q hK=>by
 have hTS:TSl P t e (szC c) by_:=⟨hT⟩;have El:=TSl.elem (P:=P) (t:=t) (e:=e) (sz:=szC c) (bytes:=by_);obtain ⟨i,z',hi,hz',hsize,hbytes,hzs⟩:=El.info;have hpos:=El.pos;obtain ⟨z,hZ,hone,rfl⟩:=J9 hz;have h6:z'=z:=by
  have h7:=hZ.h;rw [hi] at h7;simp only [Option.bind_some] at h7;rw [hz'] at h7;injection h7
 subst h6;obtain ⟨k,e1⟩:=h1 hE;obtain ⟨k',e2⟩:=h2 hE;have hcb:c2*by_<=281474976710656:=Nat.le_trans (Nat.mul_le_mul hc hby) (by decide);have hbc:(i.bytes:Int)*(c2:Int)<=281474976710656:=by
  rw [<-Int.natCast_mul,hbytes,Nat.mul_comm];omega
 have hrun:=run_make (P:=P) κ.w t e i z' El.slice hi hz' k k' (n:Int) (c2:Int) (by omega) (by omega) hbc (by omega);simp only [Int.toNat_natCast] at hrun;rw [hsize] at hrun;unfold Oper.wp;have hrun2:(execOp a.eval o').run P κ.w=.ok (.value (.slice (some ⟨κ.w.heap.size,0,none⟩) n c2)) (κ.w.alloc (.cells (madeCells z'.cells (c2*szC c)) e)):=by
  simp only [execOp,ho,e1,e2,Sem.run_bind,hrun,Result.andThen_ok,Sem.run_pure]
 rw [hrun2];have hq:¬κ.N q:=hf q (List.mem_singleton.2 rfl);have hfr:Fr (Touch κ H []) κ.w (κ.w.alloc (.cells (madeCells z'.cells (c2*szC c)) e)):=Fr.alloc _ _ _;have hmax:c2<=maxLen:=by unfold maxLen;omega
 have hle:n*szC c<=c2*szC c:=Nat.mul_le_mul_right _ hn;have hvl:((madeCells z'.cells (c2*szC c)).toList.take (n*szC c)).length=n*szC c:=by
  rw [List.length_take,Array.length_toList,size_madeCells];omega
 refine hK _ (κ.bind q (.slice (some ⟨κ.w.heap.size,0,none⟩) n c2) _) (XJ (x:=.row e c (List.replicate n x0)) (v:=.one (.own q)) (wr:=[]) hH hW hq hfr ⟨(madeCells z'.cells (c2*szC c)).toList.take (n*szC c),?_,?_⟩ ⟨.inr rfl,jH.symm,rfl⟩ fun _ b hb=>.inr ?_)
 .rw [jH,List.length_replicate]
  exact ku.of (b:=0) ⟨hvl,.inr ⟨κ.w.heap.size,c2,_,rfl,Nat.zero_le _,heap_alloc_new κ.w _,hn,hmax,by rw [size_madeCells],rfl⟩⟩
 .have hzr:All2 (RepF κ.R κ.w) (cv c x0) z'.cells.toList:=(uo (qY c x0)).1 (zbS hx0 (QL (κ:=κ) hone))
  have hle':=QF (u:=.slice (some ⟨κ.w.heap.size,0,none⟩) n c2) hH hq hfr;refine zif hpos (hzr.imp fun _ _ k=>RepF.mono hle' k) hvl fun i j hi hj=>?_;have hzs':z'.cells.size=szC c:=hzs;have hlt:i*szC c+j<n*szC c:=by
   have:=Nat.mul_le_mul_right (szC c) (Nat.succ_le_of_lt hi);rw [Nat.succ_mul] at this;omega
  rw [List.getElem?_take,if_pos hlt];unfold madeCells;have hm:(i*szC c+j)%szC c=j:=by rw [Nat.add_comm,Nat.add_mul_mod_self_right,Nat.mod_eq_of_lt hj]
  have h8:i*szC c+j<c2*szC c:=by omega
  simp [h8,hzs',hm];rw [getElem!_pos z'.cells j (by omega),Array.getElem?_eq_getElem (by omega)]
 .cases c2 with
  | zero=>cases hb
  | succ c2=>cases hb;exact Nat.le_refl _⟩
theorem zcL (h:zaI P E t x y q K=some m) (hm:m=some r):∃v,K v=some r/\Says P E H (.makeSlice t x y) v:=by
 unfold zaI at h;split at h
 .rename_i e sz by_ hT
  split at h
  .rename_i c zs hc hz
   split at h
   .rename_i x0 hx0
    cases hcc:(Nat.beq (szC c) sz&&Nat.ble by_ 4096)
    .rw [hcc] at h;cases h
    .rw [hcc,cond_true] at h
     rw [Bool.and_eq_true] at hcc;have h1:=Nat.eq_of_beq_eq_true hcc.1;have h2:=Nat.le_of_ble_eq_true hcc.2;subst h1;cases hs:zfc x y
     .rw [hs,cond_false] at h
      split at h
      .obtain ⟨n,hb1,hb2⟩:=zak h hm
       cases hbb:(bnd E y fun c2=>Md.ifp (c2<=16000000) (Md.ifp (n<=c2) (K ⟨.one (.own q),[(q,some (.row e c (List.replicate n x0)))],[q],[]⟩))) with
       | none=>rw [hbb] at hb1;cases hb1
       | some mm =>
        rw [hbb] at hb1;obtain ⟨c2,hb3,hb4⟩:=zak hbb hb1;obtain ⟨hg1,hb3⟩:=Md.Xb hb3;obtain ⟨hg2,hK⟩:=Md.Xb hb3;exact ⟨_,hK,zcy hT hz hx0 h2 hg1 hg2 (fun hE=>hb2 0 hE) fun hE=>hb4 0 hE⟩
      .cases h
     .rw [hs,cond_true] at h
      obtain ⟨n,hb1,hb2⟩:=zak h hm;obtain ⟨hg,hK⟩:=Md.Xb hb1;have hxy:x=y:=by
       unfold zfc at hs;split at hs
       .rw [Nat.eq_of_beq_eq_true hs]
       .cases hs
      subst hxy;exact ⟨_,hK,zcy hT hz hx0 h2 hg (Nat.le_refl _) (fun hE=>hb2 0 hE) fun hE=>hb2 0 hE⟩
   .cases h
  .cases h
 .cases h
def oneL (E:Operand->XA):List Operand->Option (List XV)
 | []=>some []
 | x::xs=>match E x with
  | .one v=>match oneL E xs with
   | some vs=>some (v::vs)
   | none=>none
  | _=>none
theorem zdb {κ:Kn} {a:Act} (hE:∀x,RepA κ (E x) (a.eval x)):∀{xs:List Operand} {vs:List XV},oneL E xs=some vs->Jj κ vs (xs.map a.eval)
 | [],vs,h=>by cases h;trivial
 | x::xs,vs,h=>by
  unfold oneL at h;split at h
  .rename_i v hv
   split at h
   .rename_i ws hw
    cases h;exact ⟨hE1 hE hv,zdb hE hw⟩
   .cases h
  .cases h
def zbV (E:Operand->XA) (f:Fn) (first caps:Array Operand):Option XA :=
 match f,first,caps with
 | .func f,⟨[]⟩,⟨xs⟩=>(oneL E xs).map fun vs=>.one (.fn false f vs)
 | .func f,⟨x::xs⟩,⟨[]⟩=>(oneL E (x::xs)).map fun vs=>.one (.fn true f vs)
 | _,_,_=>none
theorem zd9 {f:Fn} {first caps:Array Operand} {v:XA} (h:zbV E f first caps=some v):Says P E H (.makeFunc f first caps) v.x:=by
 unfold zbV at h;split at h
 .rename_i f xs
  obtain ⟨vs,hvs,rfl⟩:=Option.map_eq_some_iff.1 h;refine yS fun {κ a o'} ho hE hH=>⟨.func (.func f) #[] (xs.map a.eval).toArray,by simp [execOp,ho,Instr.makeFunc],xs.map a.eval,by simp [fnV],zdb hE hvs⟩
 .rename_i f x xs
  obtain ⟨vs,hvs,rfl⟩:=Option.map_eq_some_iff.1 h;refine yS fun {κ a o'} ho hE hH=>⟨.func (.func f) ((x::xs).map a.eval).toArray #[],by simp [execOp,ho,Instr.makeFunc],(x::xs).map a.eval,by simp [fnV],zdb hE hvs⟩
 .cases h
def zmC (E:Operand->XA) (x:Operand):Option XA :=
 match E x with
 | .one (.p id off)=>some (.one (.p id off))
 | .one (.rp id sz j o)=>some (.one (.rp id sz j o))
 | .one (.pt c v)=>some (.one (.pt c v))
 | .one (.cp cs)=>some (.one (.cp cs))
 | _=>none
theorem zky {v:XA} (h:zmC E x=some v):Says P E H (.nilCheck x) v.x:=by
 have key:∀{κ:Kn} {a:Act} {o':Oper} {p:XV},o'.op=.nilCheck x->(∀x,RepA κ (E x) (a.eval x))->E x=.one p->(∃A,a.eval x=.pointer (some A))->∃u,(execOp a.eval o').run P κ.w=.ok (.value u) κ.w/\RepA κ (.one p) u:=fun {κ a o' p} ho hE hx ⟨A,hA⟩=>⟨a.eval x,by simp [execOp,ho,hA],hE1 hE hx⟩;unfold zmC at h;split at h<;>first|(cases h;done)|cases h
 .rename_i id off hx
  exact yS fun {κ a o'} ho hE hH=>key ho hE hx (by obtain ⟨_,b,_,e⟩:=hE1 hE hx;exact ⟨_,e⟩)
 .rename_i id sz j o hx
  exact yS fun {κ a o'} ho hE hH=>key ho hE hx (by obtain ⟨_,b,_,e⟩:=hE1 hE hx;exact ⟨_,e⟩)
 .rename_i c v hx
  exact yS fun {κ a o'} ho hE hH=>key ho hE hx (by obtain ⟨b,off,vals,e,_⟩:=RepF.Uu (hE1 hE hx);exact ⟨_,e⟩)
 .rename_i cs hx
  exact yS fun {κ a o'} ho hE hH=>key ho hE hx (by obtain ⟨fs,_,h⟩:=hE1 hE hx;obtain ⟨b,off,vals,e,_⟩:=h.Uu;exact ⟨_,e⟩)
theorem zgP {f:Nat} {v:XA} (h:ze6 P E t x f=some v):Says P E H (.field t x f) v.x:=by
 unfold ze6 at h;split at h
 .rename_i o n agg cs hf hx
  have hF:TFld P t f o n agg:=⟨hf⟩;obtain ⟨fs,fd,h1,h2,h3,h4⟩:=TFld.parts (P:=P) (t:=t) (f:=f) (off:=o) (n:=n) (agg:=agg);refine yS fun {κ a o'} ho hE hH=>?_;obtain ⟨vs,e,hr⟩:=hEa hE hx;have hl:=hr.length;rcases zbY h with ⟨rfl,hn,rfl⟩|⟨rfl,c,hc0,rfl⟩
  .have hn:n<=(vs.drop o).length:=by rw [List.length_drop] at hn ⊢;omega
   refine ⟨.agg ((vs.drop o).take n).toArray,?_,_,rfl,(hr.drop o).take n⟩;have hpart:(part fd.type vs.toArray o).run P κ.w=.ok (.agg ((vs.drop o).take n).toArray) κ.w:=by
    have hex:vs.toArray.extract o (o+n)=((vs.drop o).take n).toArray:=by
     apply Array.ext';simp [List.extract_eq_take_drop,List.drop_take]
    simp [part,XP (P:=P) (t:=fd.type) (agg:=true) (n:=n),jl (P:=P) (t:=fd.type) (agg:=true) (n:=n),hex]
   simp [execOp,ho,Instr.field,run_underlying h1,e,h2,h3,asAgg,hpart]
  .obtain ⟨u,hu,h5⟩:=(hr.drop o).get hc0
   refine ⟨u,?_,h5⟩;have hpart:(part fd.type vs.toArray o).run P κ.w=.ok u κ.w:=by
    have:vs[o]?=some u:=by simpa using hu
    simp [part,XP (P:=P) (t:=fd.type) (agg:=false) (n:=n),this]
   simp [execOp,ho,Instr.field,run_underlying h1,e,h2,h3,asAgg,hpart]
 .cases h
def zh1 (P:Program) (t:TypeId) (a b:XV):Option Bool :=
 match P.underlying t with
 | some .string=>match a,b with
  | .s l,.s k=>some (decide (l=k))
  | _,_=>none
 | some (.int _)=>match intOf a,intOf b with
  | some (k,m),some (k',n)=>bif eqK k k' then some (m==n) else none
  | _,_=>none
 | some .bool=>match Qe a,Qe b with
  | some m,some n=>some (m==n)
  | _,_=>none
 | _=>none
def eqFs (P:Program) (cs ds:List XV):List Field->Option Bool
 | []=>some true
 | f :: fs => bif (f.name == "_") then none else
  match varOf P f.type,cs[f.offset]?,ds[f.offset]? with
  | some (false,_),some a,some b=>match zh1 P f.type a b,eqFs P cs ds fs with
   | some p,some q=>some (p&&q)
   | _,_=>none
  | _,_,_=>none
theorem zgF {κ:Kn} {f:TypeId} {p q:XV} {u v:Value} {b:Bool} {d:Nat} (h:zh1 P f p q=some b) (hu:RepX κ p u) (hv:RepX κ q v):(Op.equalIn (d+1) f u v).run P κ.w=.ok b κ.w:=by
 unfold zh1 at h;split at h
 .rename_i hT
  split at h
  .rename_i l k
   cases h;rw [WU (p:=.s l) rfl hu,WU (p:=.s k) rfl hv,run_equalIn_string κ.w d f _ _ hT,zfg,zfg]
   congr 1
   by_cases e:l=k
   .simp [e]
   .simp [e]
  .cases h
 .rename_i kk hT
  split at h
  .rename_i k m k' n h1 h2
   cases hk:eqK k k'
   .rw [hk] at h;cases h
   .rw [hk] at h
    cases h;have e:k=k':=of_decide_eq_true hk;subst e;rw [WU (zaQ h1) hu,WU (zaQ h2) hv,run_equalIn_int κ.w d f k kk m n hT]
  .cases h
 .rename_i hT
  split at h
  .rename_i m n h1 h2
   cases h;rw [WU (Ut h1) hu,WU (Ut h2) hv];exact run_equal_bool hT
  .cases h
 .cases h
theorem zfG {κ:Kn} {cs ds:List XV} {us vs:List Value} {d:Nat} (hu:All2 (RepX κ) cs us) (hv:All2 (RepX κ) ds vs):∀{fs:List Field} {b:Bool},eqFs P cs ds fs=some b->(Op.eqFields (d+1) us.toArray vs.toArray fs).run P κ.w=.ok b κ.w
 | [],b,h=>by cases h;simp [Op.eqFields]
 | f::fs,b,h=>by
  unfold eqFs at h;cases hn : (f.name == "_")
  .rw [hn,cond_false] at h
   split at h
   .rename_i n p q h1 h2 h3
    split at h
    .rename_i b1 b2 h4 h5
     cases h;obtain ⟨u,k1,k2⟩:=hu.get h2;obtain ⟨v,k3,k4⟩:=hv.get h3;have hV:TVar P f.type false n:=⟨h1⟩;have hp1:(part f.type us.toArray f.offset).run P κ.w=.ok u κ.w:=by
      have:us.toArray[f.offset]?=some u:=by simpa using k1
      simp only [part,Sem.run_bind,XP (P:=P) (t:=f.type) (agg:=false) (n:=n),Result.andThen_ok,this];rfl
     have hp2:(part f.type vs.toArray f.offset).run P κ.w=.ok v κ.w:=by
      have:vs.toArray[f.offset]?=some v:=by simpa using k3
      simp only [part,Sem.run_bind,XP (P:=P) (t:=f.type) (agg:=false) (n:=n),Result.andThen_ok,this];rfl
     have he:=zgF (d:=d) h4 k2 k4;have ih:=zfG (d:=d) hu hv h5;have hne : f.name ≠ "_" := by simpa using hn
     unfold Op.eqFields;rw [if_pos hne];simp only [Sem.run_bind,hp1,hp2,he,Result.andThen_ok];cases b1
     .rfl
     .exact ih
    .cases h
   .cases h
  .rw [hn] at h;cases h
def zbW (P:Program) (E:Operand->XA) (op:BinOp) (xT:TypeId) (x y:Operand):Option XV :=
 match E x,E y,P.underlying xT with
 | .ag cs,.ag ds,some (.struct fs)=>bif P.stoodInHeld xT||P.eqGuardType P.depth xT then none else
  (match eqFs P cs ds fs.toList with
  | some b=>match op with
   | .eql=>some (.b b)
   | .neq=>some (.b (!b))
   | _=>none
  | none=>none)
 | _,_,_=>none
theorem zd_ {op:BinOp} {v:XV} (h:zbW P E op xT x y=some v):Says P E H (.binOp op xT x y yT) v.x:=by
 unfold zbW at h;split at h
 .rename_i cs ds fs hx hy hT
  cases hg:(P.stoodInHeld xT||P.eqGuardType P.depth xT)
  .rw [hg,cond_false] at h
   rw [Bool.or_eq_false_iff] at hg;split at h
   .rename_i b hb
    have key:∀{κ:Kn} {a:Act},(∀x,RepA κ (E x) (a.eval x))->∃us vs:List Value,a.eval x=.agg us.toArray/\a.eval y=.agg vs.toArray/\(Op.equalIn 10000 xT (.agg us.toArray) (.agg vs.toArray)).run P κ.w=.ok b κ.w:=fun {κ a} hE=>by
     obtain ⟨us,e1,r1⟩:=hEa hE hx;obtain ⟨vs,e2,r2⟩:=hEa hE hy;refine ⟨us,vs,e1,e2,?_⟩;have hF:P.fieldsOf xT=fs:=by unfold Program.fieldsOf;rw [hT]
     rw [run_equalIn_agg κ.w 9999 xT _ _ (by rw [hF];exact hT) hg.1,hF];exact zfG (d:=9998) r1 r2 hb
    split at h
    .cases h
     refine xM (u:=.bool b) rfl rfl fun {κ a o'} ho hE=>?_;obtain ⟨us,vs,e1,e2,e3⟩:=key hE;simp only [execOp,ho,e1,e2,Sem.run_bind,run_eqGuard_agg κ.w _ xT x y _ _ hg.2,run_eql_struct,e3,Result.andThen_ok,Sem.run_pure]
    .cases h
     refine xM (u:=.bool (!b)) rfl rfl fun {κ a o'} ho hE=>?_;obtain ⟨us,vs,e1,e2,e3⟩:=key hE;simp only [execOp,ho,e1,e2,Sem.run_bind,run_eqGuard_agg κ.w _ xT x y _ _ hg.2,run_neq_struct,e3,Result.andThen_ok,Sem.run_pure]
    .cases h
   .cases h
  .rw [hg] at h;cases h
 .cases h
end
end G
end Go.Proofs.YtbijabmjbgplbaaGreatDoor
namespace Go.Proofs.YtbijabmjbgplbaaGreatDoor
open Go.ChangeShapes Go.WideShapes Go.RowKit
namespace G
structure zbr (c:EC) (d:TypeDesc):Type where
 dec:DecidableEq (T c)
 same:∀x y:T c,Instr.sameNow d (vl c x) (vl c y)=some (@decide (x=y) (dec x y))
def zc0 (c:EC):Option ((d:TypeDesc)×zbr c d) :=
 match c with
 | .int=>some ⟨.int .i64,⟨(inferInstance:DecidableEq Int),fun x y=>by
   show Instr.sameNow (.int .i64) (.int .i64 x) (.int .i64 y)=_;simp [Instr.sameNow]
   by_cases h:x=y<;>simp [h]⟩⟩
 | .str=>some ⟨.string,⟨(inferInstance:DecidableEq (List UInt8)),fun x y=>by
   show Instr.sameNow .string (Sv x) (Sv y)=_;simp only [Instr.sameNow]
   congr 1
   by_cases h:x=y
   .subst h
    simp only [decide_true];exact (MapKept.bytes_beq _ _).2 rfl
   .rw [decide_eq_false h]
    rw [<-Bool.not_eq_true,MapKept.bytes_beq];exact fun e=>h (Md.zmX.1 e)⟩⟩
 | _=>none
theorem zfZ {k v:EC} {d:TypeDesc} (ok:zbr k d):∀(es:List MapEntry) (l:List (T k×T v)) (i:Nat) (x:T k),es.map (fun e=>(e.key,e.val))=mpl (vl k) (vl v) l ->
  match @Md.mget _ _ ok.dec l x with
  | some y=>∃j,i<=j/\Instr.findNow d (vl k x) es i=some (some (j,vl v y))/\(es.modify (j - i) fun e=>{ e with val:=e.val }).length=es.length
  | none=>Instr.findNow d (vl k x) es i=some none
 | [],[],i,x,h=>rfl
 | [],_::_,i,x,h=>by simp [mpl] at h
 | _::_,[],i,x,h=>by simp [mpl] at h
 | e::es,p::l,i,x,h=>by
  simp only [mpl,List.map_cons,List.cons.injEq,Prod.mk.injEq] at h;obtain ⟨⟨h1,h2⟩,h3⟩:=h;have hs:=ok.same x p.1;unfold Md.mget
  by_cases hk:x=p.1
  .rw [@if_pos _ (ok.dec x p.1) hk]
   refine ⟨i,Nat.le_refl _,?_,by simp⟩;rw [@decide_eq_true _ (ok.dec x p.1) hk] at hs;simp [Instr.findNow,h1,hs,h2]
  .rw [@if_neg _ (ok.dec x p.1) hk]
   rw [@decide_eq_false _ (ok.dec x p.1) hk] at hs;have hstep:Instr.findNow d (vl k x) (e::es) i=Instr.findNow d (vl k x) es (i+1):=by simp [Instr.findNow,h1,hs]
   rw [hstep];have ih:=zfZ ok es l (i+1) x h3;split at ih
   .rename_i y hy
    obtain ⟨j,k1,k2,k3⟩:=ih;exact ⟨j,by omega,k2,by simp⟩
   .exact ih
def scal:EC->Bool
 | .int=>true
 | .bool=>true
 | .str=>true
 | _=>false
def vlOk:EC->Bool
 | .st s=>(leaves s).all scal
 | c=>scal c
def xm (c:EC) (x:T c):X1 :=
 match c,x with
 | .st s,x=>.ag (cells (.st s) x)
 | c,x=>.one (xv1 c x)
theorem zop {κ:Kn} {c:EC} (h:vlOk c=true) (x:T c):Rep1 κ (xm c x) (vl c x):=by
 cases c with
 | int=>exact RepF.val _ rfl
 | bool=>exact RepF.val _ rfl
 | str=>exact RepF.val _ rfl
 | st s =>
  cases s<;>first
   | (exact absurd h (by decide))
   | exact ⟨(vl (.st _) x).cells.toList,rfl,by repeat' first|exact All2.nil|refine All2.cons (RepF.val _ rfl) ?_⟩
 | _=>cases h
theorem zaD {κ:Kn} {c:EC} (h:vlOk c=true) {x:T c} {u:Value} (hr:Rep1 κ (xm c x) u):u=vl c x:=by
 cases c with
 | int=>exact WU (p:=xv1 .int x) rfl hr
 | bool=>exact WU (p:=xv1 .bool x) rfl hr
 | str=>exact WU (p:=xv1 .str x) rfl hr
 | st s =>
  obtain ⟨vs,rfl,h2⟩:=hr;have h3:=(uo (qY (.st s) x)).1 h2;clear h2;cases s<;>first
   | (exact absurd h (by decide))
   | (
     have key:∀{us:List Value},All2 (RepF κ.R κ.w) (us.map FV.val) vs->vs=us:=fun k=>zcM k;have:=key (us:=(vl (.st _) x).cells.toList) h3;rw [this];rfl)
 | _=>cases h
section
variable {P:Program} {E:Operand->XA} {H:Nat->Option XB} {R:Type} {K:Upd->Option R} {r:R} {m:Option R} {x y z:Operand} {t:TypeId} {q:Nat}
structure MapL where
 k:EC
 v:EC
 l:List (T k×T v)
def mapOf (H:Nat->Option XB):XA->Option MapL
 | .one (.mp k v l)=>some ⟨k,v,l⟩
 | .one (.m id)=>match H id with
  | some (.mp k v l)=>some ⟨k,v,l⟩
  | _=>none
 | _=>none
theorem zmo {κ:Kn} {a:XA} {u:Value} {ml:MapL} (hH:HOk κ H) (h:mapOf H a=some ml) (hr:RepA κ a u) :
  (u=.map none/\ml.l=[])\/∃(b:Nat) (es:List MapEntry) (clock:Nat),u=.map (some b)/\κ.w.heap[b]?=some (.map es.toArray clock)/\es.map (fun e=>(e.key,e.val))=mpl (vl ml.k) (vl ml.v) ml.l:=by
 unfold mapOf at h;split at h
 .rename_i k v l
  cases h;have hr:RepF κ.R κ.w (.mp (mpl (vl k) (vl v) l)) u:=hr;generalize hkv:mpl (vl k) (vl v) l=kv at hr;cases hr with
  | mpn =>
   refine .inl ⟨rfl,?_⟩;cases l with
   | nil=>rfl
   | cons p l=>simp [mpl] at hkv
  | mp _ b clock es hR hb he=>exact .inr ⟨b,es,clock,rfl,hb,he⟩
 .rename_i id
  split at h
  .rename_i k v l hb
   cases h;obtain ⟨_,b,es,cl,h1,h2,h3⟩:=hH.blk hb;exact .inr ⟨b,es,cl,hr.2.1.trans h1,h2,h3⟩
  .cases h
 .cases h
theorem isKey {k:EC} {d:TypeDesc} {o:zbr k d} (ok:zc0 k=some ⟨d,o⟩) (x:T k):MapKept.IsKey d (vl k x):=by
 unfold zc0 at ok;split at ok
 .cases ok;trivial
 .cases ok;trivial
 .cases ok
def sameD:TypeDesc->TypeDesc->Bool
 | .int a,.int b=>eqK a b
 | .string,.string=>true
 | _,_=>false
theorem zmL {a b:TypeDesc} (h:sameD a b=true):a=b:=by
 unfold sameD at h;split at h
 .rw [of_decide_eq_true h]
 .rfl
 .cases h
def mapT (P:Program) (t:TypeId) (d:TypeDesc):Option (TypeId×TypeId) :=
 match P.underlying t with
 | some (.map k e)=>match P.underlying k with
  | some dk=>bif sameD dk d then some (k,e) else none
  | none=>none
 | _=>none
theorem zfY {d:TypeDesc} {k e:TypeId} (h:mapT P t d=some (k,e)):P.underlying t=some (.map k e)/\P.underlying k=some d:=by
 unfold mapT at h;split at h
 .rename_i k' e' hm
  split at h
  .rename_i dk hk
   cases hs:sameD dk d
   .rw [hs] at h;cases h
   .rw [hs,cond_true] at h
    cases h;exact ⟨hm,by rw [hk,zmL hs]⟩
  .cases h
 .cases h
def isSt:EC->Bool
 | .st _=>true
 | _=>false
def valX (c:EC):XA->Option (T c)
 | .one x=>bif isSt c then none else mk c [x]
 | .ag cs=>bif isSt c then mk c cs else none
 | .tu _=>none
def zOk (P:Program) (e:TypeId) (c:EC):Bool :=
 match (P.info? e).bind (·.zero),c with
 | some (.agg _),.st _=>true
 | some (.agg _),_=>false
 | some _,.st _=>false
 | some _,_=>true
 | none,_=>false
def zmz (P:Program) (E:Operand->XA) (H:Nat->Option XB) (t:TypeId) (x y:Operand) (ok:Bool):Option XA :=
 match mapOf H (E x),E y with
 | some ⟨k,v,l⟩,.one key =>
  match zc0 k with
  | some ⟨d,o⟩ =>
   match mapT P t d,JM k key with
   | some (_,e),some kx =>
    match (zci P e).bind fun zs=>mk v zs,vlOk v&&zOk P e v with
    | some z0,true=>let g:=@Md.mget _ _ o.dec l kx
     some (bif ok then .tu [xm v (g.getD z0),.one (.b g.isSome)] else (xm v (g.getD z0)).xa)
    | _,_=>none
   | _,_=>none
  | none=>none
 | _,_=>none
theorem zo4 {κ:Kn} {c:EC} {zs:List XV} {z0:T c} {zc:List Value} (hv:vlOk c=true) (h:mk c zs=some z0) (hr:All2 (RepX κ) zs zc):(∃s,c=.st s)/\Value.agg zc.toArray=vl c z0\/(∀s,c≠.st s)/\zc=[vl c z0]:=by
 have h1:=zbS h hr;cases c with
 | st s=>exact .inl ⟨⟨s,rfl⟩,zaD hv ⟨zc,rfl,h1⟩⟩
 | int=>exact .inr ⟨nofun,by cases h1 with|cons a t=>cases t;rw [zaD (c:=.int) rfl (x:=z0) a]⟩
 | bool=>exact .inr ⟨nofun,by cases h1 with|cons a t=>cases t;rw [zaD (c:=.bool) rfl (x:=z0) a]⟩
 | str=>exact .inr ⟨nofun,by cases h1 with|cons a t=>cases t;rw [zaD (c:=.str) rfl (x:=z0) a]⟩
 | _=>cases hv
theorem zne {e:TypeId} {c:EC} {zs:List XV} {z0:T c} (hz:zci P e=some zs) (h:mk c zs=some z0) (hv:vlOk c=true) (ho:zOk P e c=true) (κ:Kn):(zeroValue e).run P κ.w=.ok (vl c z0) κ.w:=by
 obtain ⟨z,hZ,hone,rfl⟩:=J9 hz;have h1:=zo4 (κ:=κ) hv h (QL hone);unfold zOk at ho;rw [hZ.h] at ho;have h2:z=vl c z0:=by
  rcases h1 with ⟨⟨s,rfl⟩,h3⟩|⟨h3,h4⟩
  .cases z<;>first|(cases ho;done)|skip
   exact h3
  .cases z with
   | agg cs=>cases c<;>first|(cases ho;done)|exact absurd rfl (h3 _)
   | _=>exact List.head_eq_of_cons_eq h4
 rw [<-h2];exact zaH.run (P:=P) (t:=e) (z:=z) κ.w
theorem zkx {ok:Bool} {v:XA} (h:zmz P E H t x y ok=some v):Says P E H (.lookup t x y ok) v.x:=by
 unfold zmz at h;split at h
 .rename_i k c l key hm hy
  split at h
  .rename_i d o hk
   split at h
   .rename_i kt e kx hT hkx
    split at h
    .rename_i z0 hz hv
     rw [Bool.and_eq_true] at hv;obtain ⟨zs,hz1,hz2⟩:=Option.bind_eq_some_iff.1 hz;obtain ⟨hm1,hm2⟩:=zfY hT;cases h;refine yS fun {κ a o'} ho hE hH=>?_;have hkey:a.eval y=vl k kx:=by
      have h1:=VF hkx (hE1 hE hy);cases k with
      | int=>exact zaD (c:=.int) rfl (x:=kx) h1
      | str=>exact zaD (c:=.str) rfl (x:=kx) h1
      | _=>cases hk
     have hck:∀bb,(Instr.checkKey bb 10000 kt (vl k kx)).run P κ.w=.ok () κ.w:=fun bb=>MapKept.run_checkKey hm2 (isKey hk kx) bb 9999;have hzv:=zne hz1 hz2 hv.1 hv.2 κ;generalize hg:@Md.mget _ _ o.dec l kx=g;have main:(Instr.lookup t (a.eval x) (vl k kx) ok).run P κ.w=.ok (if ok then .tuple #[vl c (g.getD z0),.bool g.isSome] else vl c (g.getD z0)) κ.w:=by
      rcases zmo hH hm (hE x) with ⟨h1,h2⟩|⟨b,es,clock,h1,h2,h3⟩
      .have hl:l=[]:=h2
       subst hl;have:g=none:=hg.symm;subst this;have hf:(Instr.findKey kt (vl k kx) []).run P κ.w=.ok none κ.w:=MapKept.run_findKey hm2 rfl;simp [Instr.lookup,h1,run_underlying hm1,hck,hf,hzv]
      .have hget:=MapKept.run_getObj_map (P:=P) h2
       have hf:=zfZ (v:=c) o es l 0 kx h3;rw [hg] at hf;cases g with
       | none =>
        have hf':(Instr.findKey kt (vl k kx) es).run P κ.w=.ok none κ.w:=MapKept.run_findKey hm2 hf;simp [Instr.lookup,h1,run_underlying hm1,hget,hck,hf',hzv]
       | some g =>
        obtain ⟨j,_,h4,_⟩:=hf;have hf':(Instr.findKey kt (vl k kx) es).run P κ.w=.ok (some (j,vl c g)) κ.w:=MapKept.run_findKey hm2 h4;simp [Instr.lookup,h1,run_underlying hm1,hget,hck,hf']
     refine ⟨if ok then .tuple #[vl c (g.getD z0),.bool g.isSome] else vl c (g.getD z0),by simp only [execOp,ho,hkey,Sem.run_bind,main,Result.andThen_ok,Sem.run_pure],?_⟩;have hrep:=zop (κ:=κ) hv.1 (g.getD z0);cases ok with
     | false=>exact UY.2 hrep
     | true=>exact ⟨[vl c (g.getD z0),.bool g.isSome],rfl,.cons hrep (.cons (RepF.val _ rfl) .nil)⟩
    .cases h
   .cases h
  .cases h
 .cases h
def zcK (t:TypeId) (q:Nat):Option Upd :=
 match ecT t with
 | some (.mp k v)=>bif vlOk v&&(zc0 k).isSome then some ⟨.one (.m q),[(q,some (.mp k v []))],[q],[]⟩ else none
 | _=>none
theorem zeC {u:Upd} (h:zcK t q=some u):Says P E H (.makeMap t none) u:=by
 unfold zcK at h;split at h
 .rename_i k v _
  cases hc:(vlOk v&&(zc0 k).isSome)
  .rw [hc] at h;cases h
  .rw [hc] at h
   cases h;refine ⟨fun {κ a o'} ho hE hH hW hf K Q hK=>?_⟩;have hq:¬κ.N q:=hf q (List.mem_singleton.2 rfl);have hrun:(execOp a.eval o').run P κ.w=.ok (.value (.map (some κ.w.heap.size))) (κ.w.alloc (.map #[] 0)):=by
    simp only [execOp,ho,Option.map_none,Sem.run_bind,run_makeMap,Result.andThen];rfl
   unfold Oper.wp;rw [hrun];have hfr:Fr (Touch κ H []) κ.w (κ.w.alloc (.map #[] 0)):=Fr.alloc _ _ _;exact hK _ (κ.bind q (.map (some κ.w.heap.size)) _) (XJ (x:=.mp k v []) (v:=.one (.m q)) (wr:=[]) hH hW hq hfr ⟨κ.w.heap.size,[],0,jH,World.alloc_heap_new κ.w _,rfl⟩ ⟨.inr rfl,jH.symm,rfl⟩ fun _ b hb=>.inr (by cases hb;exact Nat.le_refl _))
 .cases h
def aPut (P:Program) (E:Operand->XA) (H:Nat->Option XB) (t:TypeId) (x y z:Operand):Option Upd :=
 match E x,E y with
 | .one (.m id),.one key =>
  match H id with
  | some (.mp k v l) =>
   match zc0 k with
   | some ⟨d,o⟩ =>
    match mapT P t d,JM k key,valX v (E z) with
    | some _,some kx,some vx=>bif vlOk v then some ⟨.one .any,[(id,some (.mp k v (@Md.mput _ _ o.dec l kx vx)))],[],[id]⟩ else none
    | _,_,_=>none
   | none=>none
  | _=>none
 | _,_=>none
theorem ziC {k v:EC} {d:TypeDesc} (ok:zbr k d) (kx:T k) (vx:T v):∀(es:List MapEntry) (l:List (T k×T v)) (i:Nat),es.map (fun e=>(e.key,e.val))=mpl (vl k) (vl v) l ->
  (Instr.findNow d (vl k kx) es i=some none/\@Md.mput _ _ ok.dec l kx vx=l++[(kx,vx)]) \/
  ∃j u,i<=j/\Instr.findNow d (vl k kx) es i=some (some (j,u))/\(es[j - i]?).map (·.key)=some (vl k kx)/\(es.modify (j - i) fun e=>{ e with key:=vl k kx,val:=vl v vx }).map (fun e=>(e.key,e.val))=mpl (vl k) (vl v) (@Md.mput _ _ ok.dec l kx vx)
 | [],[],i,h=>.inl ⟨rfl,rfl⟩
 | [],_::_,i,h=>by simp [mpl] at h
 | _::_,[],i,h=>by simp [mpl] at h
 | e::es,p::l,i,h=>by
  simp only [mpl,List.map_cons,List.cons.injEq,Prod.mk.injEq] at h;obtain ⟨⟨h1,h2⟩,h3⟩:=h;have hs:=ok.same kx p.1;unfold Md.mput
  by_cases hk:kx=p.1
  .rw [@if_pos _ (ok.dec kx p.1) hk]
   rw [@decide_eq_true _ (ok.dec kx p.1) hk] at hs;refine .inr ⟨i,e.val,Nat.le_refl _,by simp [Instr.findNow,h1,hs],by simp [h1,hk],?_⟩;subst hk;rw [Nat.sub_self];show (vl k p.1,vl v vx)::es.map _=(vl k p.1,vl v vx)::mpl (vl k) (vl v) l;rw [h3];rfl
  .rw [@if_neg _ (ok.dec kx p.1) hk]
   rw [@decide_eq_false _ (ok.dec kx p.1) hk] at hs;have hstep:Instr.findNow d (vl k kx) (e::es) i=Instr.findNow d (vl k kx) es (i+1):=by simp [Instr.findNow,h1,hs]
   rw [hstep];rcases ziC ok kx vx es l (i+1) h3 with ⟨k1,k2⟩|⟨j,u,k1,k2,k3,k4⟩
   .exact .inl ⟨k1,by rw [k2];rfl⟩
   .refine .inr ⟨j,u,by omega,k2,?_,?_⟩
    .rw [show j - i=(j - (i+1))+1 by omega]
     simpa using k3
    .rw [show j - i=(j - (i+1))+1 by omega]
     show (e.key,e.val)::(es.modify (j - (i+1)) _).map _=(vl k p.1,vl v p.2)::mpl (vl k) (vl v) _;rw [k4,h1,h2]
theorem zom {κ:Kn} {c:EC} (hv:vlOk c=true) {a:XA} {x:T c} {u:Value} (h:valX c a=some x) (hr:RepA κ a u):u=vl c x:=by
 unfold valX at h;split at h
 .rename_i y
  cases hs:isSt c
  .rw [hs,cond_false] at h
   have h1:=zbS h (.cons (show RepX κ y u from hr) .nil);cases c with
   | st s=>cases hs
   | int=>cases h1 with|cons a t=>exact zaD (c:=.int) rfl (x:=x) a
   | bool=>cases h1 with|cons a t=>exact zaD (c:=.bool) rfl (x:=x) a
   | str=>cases h1 with|cons a t=>exact zaD (c:=.str) rfl (x:=x) a
   | _=>cases hv
  .rw [hs] at h;cases h
 .rename_i cs
  cases hs:isSt c
  .rw [hs] at h;cases h
  .rw [hs,cond_true] at h
   obtain ⟨us,rfl,h2⟩:=hr;cases c with
   | st s=>exact zaD hv ⟨us,rfl,zbS h h2⟩
   | _=>cases hs
 .cases h
theorem zhb {u:Upd} {op:Op} (hop:op=.mapUpdate t x y z\/op=.insert t x y z) (h:aPut P E H t x y z=some u):Says P E H op u:=by
 unfold aPut at h;split at h
 .rename_i id key hx hy
  split at h
  .rename_i k v l hb
   split at h
   .rename_i d o hk
    split at h
    .rename_i tt kx vx hT hkx hvx
     cases hv:vlOk v
     .rw [hv] at h;cases h
     .rw [hv,cond_true] at h
      cases h;obtain ⟨kt,e⟩:=tt;obtain ⟨hm1,hm2⟩:=zfY hT;refine ⟨fun {κ a o'} ho hE hH hW hf K Q hK=>?_⟩;obtain ⟨hN,b,es,clock,g1,g2,g3⟩:=hH.blk hb;have hev:a.eval x=.map (some b):=(hE1 hE hx).2.1.trans g1;have hkey:a.eval y=vl k kx:=by
       have h1:=VF hkx (hE1 hE hy);cases k with
       | int=>exact zaD (c:=.int) rfl (x:=kx) h1
       | str=>exact zaD (c:=.str) rfl (x:=kx) h1
       | _=>cases hk
      have hval:a.eval z=vl v vx:=zom hv hvx (hE z);have hck:∀bb,(Instr.checkKey bb 10000 kt (vl k kx)).run P κ.w=.ok () κ.w:=fun bb=>MapKept.run_checkKey hm2 (isKey hk kx) bb 9999;have hget:=MapKept.run_getObj_map (P:=P) g2;have main:∃(es':List MapEntry) (clock':Nat),(Instr.mapUpdate t (.map (some b)) (vl k kx) (vl v vx)).run P κ.w=.ok () (κ.w.putObj b (.map es'.toArray clock'))/\es'.map (fun e=>(e.key,e.val))=mpl (vl k) (vl v) (@Md.mput _ _ o.dec l kx vx):=by
       rcases ziC (v:=v) o kx vx es l 0 g3 with ⟨k1,k2⟩|⟨j,u,_,k2,k3,k4⟩
       .have hf':(Instr.findKey kt (vl k kx) es).run P κ.w=.ok none κ.w:=MapKept.run_findKey hm2 k1
        refine ⟨es++[⟨vl k kx,vl v vx,clock⟩],clock+1,?_,by rw [k2];simp [mpl] at g3 ⊢;exact g3⟩;have hset:=MapKept.run_setObj_map (P:=P) (.map (es++[(⟨vl k kx,vl v vx,clock⟩:MapEntry)]).toArray (clock+1)) g2;simp [Instr.mapUpdate,run_underlying hm1,hget,hck,hf'];simpa [World.putObj] using hset
       .have hf':(Instr.findKey kt (vl k kx) es).run P κ.w=.ok (some (j,u)) κ.w:=MapKept.run_findKey hm2 k2
        rw [Nat.sub_zero] at k3 k4;refine ⟨es.modify j fun e=>{ e with key:=vl k kx,val:=vl v vx },clock,?_,k4⟩;have hkt:(Instr.keyThatStays (vl k kx) (vl k kx)).run P κ.w=.ok (vl k kx) κ.w:=MapKept.run_keyThatStays (isKey hk kx);have hset:=MapKept.run_setObj_map (P:=P) (.map (es.modify j fun e=>{ e with key:=vl k kx,val:=vl v vx }).toArray clock) g2;have hk3:((es[j]?).map (·.key)).getD (vl k kx)=vl k kx:=by rw [k3];rfl
        simp [Instr.mapUpdate,run_underlying hm1,hget,hck,hf',hk3,hkt];simpa [World.putObj] using hset
      obtain ⟨es',clock',hrun,hes⟩:=main;have hrun2:(execOp a.eval o').run P κ.w=.ok .skip (κ.w.putObj b (.map es'.toArray clock')):=by
       rcases hop with rfl|rfl<;>simp only [execOp,ho,hev,hkey,hval,Sem.run_bind,hrun,Result.andThen_ok,Sem.run_pure]
      unfold Oper.wp;rw [hrun2];have hfr:Fr (fun g=>yV (κ.ρ id)=some g) κ.w (κ.w.putObj b (.map es'.toArray clock')):=Fr.putObj _ _ _ (by rw [g1];rfl);refine hK _ (κ.to _) (zaM hH hb rfl hfr ⟨b,es',clock',g1,?_,hes⟩ rfl trivial);exact World.putObj_heap_same (Array.getElem?_eq_some_iff.1 g2).1
    .cases h
   .cases h
  .cases h
 .cases h
end
end G
end Go.Proofs.YtbijabmjbgplbaaGreatDoor
namespace Go.Proofs.YtbijabmjbgplbaaGreatDoor
open Go.ChangeShapes Go.WideShapes Go.RowKit
namespace G
def XB.unrd:XB->XB
 | .rd x=>x.unrd
 | x=>x
def vis (H:Nat->Option XB) (id:Nat):Option XB:=match H id with
 | some x=>some x.unrd
 | none=>none
theorem zdm {κ:Kn} {id:Nat}:∀{x:XB},uO κ id x->uO κ id x.unrd/\(x.unrd.live=true->x.live=true)
 | .rd x,h=>zdm (x:=x) h
 | .box _,h=>⟨h,fun h=>h⟩
 | .row _ _ _,h=>⟨h,fun h=>h⟩
 | .mp _ _ _,h=>⟨h,fun h=>h⟩
 | .cm _,h=>⟨h,fun h=>h⟩
 | .fz _,h=>⟨h,fun h=>h⟩
theorem zkN {κ:Kn} {H:Nat->Option XB} (hH:HOk κ H) {id:Nat} {x:XB} (h:vis H id=some x):∃y,H id=some y/\κ.N id/\uO κ id x/\(x.live=true->y.live=true):=by
 unfold vis at h;split at h
 .rename_i y hy
  cases h;obtain ⟨h1,h2⟩:=hH.blk hy;exact ⟨y,hy,h1,zdm h2⟩
 .cases h
theorem HOk.vis {κ:Kn} {H:Nat->Option XB} (hH:HOk κ H):HOk κ (vis H):=by
 refine ⟨fun h=>?_,fun h1 h2 l1 l2 b1 b2=>?_,fun h l b=>?_⟩
 .obtain ⟨_,_,k1,k2,_⟩:=zkN hH h;exact ⟨k1,k2⟩
 .obtain ⟨_,k1,_,_,k2⟩:=zkN hH h1
  obtain ⟨_,k3,_,_,k4⟩:=zkN hH h2;exact hH.inj k1 k3 (k2 l1) (k4 l2) b1 b2
 .obtain ⟨_,k1,_,_,k2⟩:=zkN hH h
  exact hH.notR k1 (k2 l) b
section
variable {P:Program} {E:Operand->XA} {H:Nat->Option XB} {x y:Operand} {t u:TypeId}
def zlE (P:Program) (E:Operand->XA) (H V:Nat->Option XB) (t:TypeId) (x y:Operand):Option Upd :=
 match E x,slOf P t with
 | .one (.own id),some (e,sz,_) =>
  match H id,listOf E V y with
  | some (.row e' c l1),some ⟨c',l2⟩ =>
   if h:c'=c then (bif Nat.beq (szC c) sz&&Nat.beq e e' then some ⟨.one (.n (min l2.length l1.length)),[(id,some (.row e c ((h▸l2).take l1.length++l1.drop l2.length)))],[],[id]⟩ else none) else none
  | _,_=>none
 | _,_=>none
theorem zgU {κ:Kn} {e:TypeId} {by_:Nat} {c:EC} {l1 l2:List (T c)} {v v2:Value} {vs:List Value} {ty:TypeId} (hT:slOf P t=some (e,szC c,by_)) (h1:ku κ.w e (szC c) v l1.length vs) (he:Xq κ.R κ.w c l1 vs) (h2:Src κ.R κ.w c l2 v2) :
  ∃w' vs',(Builtin.copy_ #[t,u] ty #[v,v2]).run P κ.w=.ok (.int .i64 ((min l2.length l1.length:Nat):Int)) w'/\ku w' e (szC c) v l1.length vs'/\Xq κ.R κ.w c (l2.take l1.length++l1.drop l2.length) vs'/\Fr (fun b=>yV v=some b) κ.w w':=by
 have:TSl P t e (szC c) by_:=⟨hT⟩;have El:=TSl.elem (P:=P) (t:=t) (e:=e) (sz:=szC c) (bytes:=by_);have hpos:=El.pos;obtain ⟨Ad,cap,news,rfl,g1,g2,g3,g4,g5⟩:=h2;have hn:=g5.len;have hvl:=he.len
 let m:=min l2.length l1.length
 have hmm:Nat.min l2.length l1.length=m:=rfl
 let cs:=news.take (m*szC c)
 have hm2:m*szC c<=l2.length*szC c:=Nat.mul_le_mul_right _ (Nat.min_le_left _ _);have hm1:m*szC c<=l1.length*szC c:=Nat.mul_le_mul_right _ (Nat.min_le_right _ _);have hcl:cs.length=m*szC c:=by show (news.take _).length=_;rw [List.length_take,hn];omega
 have hone:∀w∈cs,w.oneCell'=true:=fun w hw=>g5.one w (List.mem_of_mem_take hw);have hfirst:(Builtin.firstCells (szC c) m (.slice Ad l2.length cap)).run P κ.w=.ok cs.toArray κ.w:=by
  cases Ad with
  | none =>
   have:l2.length=0:=by have:=g3 rfl;omega
   have h00:l2.length*szC c=0:=by rw [this];simp
   have hc0:cs=[]:=List.eq_nil_of_length_eq_zero (by rw [hcl];omega);rw [hc0];rfl
  | some ad =>
   have:=run_loadCells_list (P:=P) κ.w ad cs (fun j v hj=>by
    have hne:news≠[]:=fun e0=>by
     have hc0:cs=[]:=by show news.take _=[];rw [e0];simp
     rw [hc0] at hj;simp at hj
    obtain ⟨b,off,e0,hb,hc⟩:=g4 hne;cases e0;rw [zah];refine hc j v ?_;have hj':(news.take (m*szC c))[j]?=some v:=hj;rw [List.getElem?_take] at hj';split at hj'
    .exact hj'
    .cases hj')
   rw [hcl] at this;exact this
 have hel:Xq κ.R κ.w c (l2.take l1.length++l1.drop l2.length) (cs++vs.drop (m*szC c)):=by
  show All2 _ _ _;rw [JZ,VL,Xa];refine All2.append ?_ ?_
  .have e1:(flat c l2).take (l1.length*szC c)=(flat c l2).take (m*szC c):=by
    rcases Nat.le_total l2.length l1.length with h|h
    .have:m=l2.length:=Nat.min_eq_left h
     rw [this,List.take_of_length_le (by rw [Ux];exact Nat.mul_le_mul_right _ h),List.take_of_length_le (by rw [Ux];exact Nat.le_refl _)]
    .have:m=l1.length:=Nat.min_eq_right h
     rw [this]
   rw [e1];exact All2.take g5 _
  .rcases Nat.le_total l2.length l1.length with h|h
   .have:m=l2.length:=Nat.min_eq_left h
    rw [this];exact All2.drop he _
   .have:m=l1.length:=Nat.min_eq_right h
    rw [this,List.drop_of_length_le (by rw [Ux];exact Nat.mul_le_mul_right _ h),List.drop_of_length_le (by rw [hvl];exact Nat.le_refl _)];exact .nil
 rcases h1.2 with ⟨h0,A,rfl⟩|⟨g,cp,cur,rfl,k1,k2,k3,k4,k5⟩
 .have hm0:m=0:=by show min _ _=0;omega
  have hc0:cs=[]:=List.eq_nil_of_length_eq_zero (by rw [hcl,hm0];simp);have hvs:vs=[]:=List.eq_nil_of_length_eq_zero (by rw [hvl,h0];simp);rw [hc0] at hfirst hel;rw [hm0] at hfirst;rw [hvs,List.drop_nil] at hel;refine ⟨κ.w,[],?_,⟨by rw [h0];simp,.inl ⟨h0,A,rfl⟩⟩,hel,Fr.refl _ _⟩;have hz:Nat.min l2.length 0=0:=Nat.min_zero _;cases A with
  | none=>simp [Builtin.copy_,run_underlying El.slice,Builtin.lenOf,TSl.jl (P:=P) (t:=t) (e:=e) (sz:=szC c) (bytes:=by_),hz,hfirst,goInt,h0]
  | some a0=>simp [Builtin.copy_,run_underlying El.slice,Builtin.lenOf,TSl.jl (P:=P) (t:=t) (e:=e) (sz:=szC c) (bytes:=by_),hz,hfirst,storeCells,goInt,h0]
 .have hst:=run_storeCells_at P g 0 e cs 0 cur κ.w k1 (by rw [hcl,k4];have:=Nat.mul_le_mul_right (szC c) k2;omega) hone
  simp only [Nat.add_zero,Nat.zero_add,List.take_zero,List.nil_append] at hst;refine ⟨κ.w.setRow g (cs++cur.toList.drop cs.length).toArray,cs++vs.drop (m*szC c),?_,?_,hel,Fr.setRow κ.w g _ rfl⟩
  .simp [Builtin.copy_,run_underlying El.slice,Builtin.lenOf,TSl.jl (P:=P) (t:=t) (e:=e) (sz:=szC c) (bytes:=by_),hmm,hfirst,hst,goInt]
  .have hle:l1.length*szC c<=cur.size:=by rw [k4];exact Nat.mul_le_mul_right _ k2
   have hlen:(cs++cur.toList.drop cs.length).length=cur.size:=by rw [List.length_append,List.length_drop,hcl,Array.length_toList];omega
   refine ⟨by rw [List.length_append,List.length_drop,hcl,hvl];omega,.inr ⟨g,cp,_,rfl,setRow_heap κ.w g cur _ e _ k1,k2,k3,by simpa [<-k4] using hlen,?_⟩⟩;show (cs++cur.toList.drop cs.length).take (l1.length*szC c)=_;rw [List.take_append,List.take_of_length_le (l:=cs) (by rw [hcl];exact hm1),hcl,<-k5]
   congr 1
   rw [List.drop_take]
theorem zjw {V:Nat->Option XB} (hV:V=vis H) {r:Upd} (h:zlE P E H V t x y=some r):Says P E H (.call { callee:=.builtin .copy,args:=#[x,y],argTypes:=#[t,u] }) r:=by
 unfold zlE at h;split at h
 .rename_i id e sz by_ hx hT
  split at h
  .rename_i e' c l1 c' l2 hb hl2
   split at h
   .rename_i hcc
    subst hcc;cases hc:(Nat.beq (szC c') sz&&Nat.beq e e')
    .rw [hc] at h;cases h
    .rw [hc,cond_true] at h
     cases h;rw [Bool.and_eq_true] at hc;have h1:=Nat.eq_of_beq_eq_true hc.1;have h2:=Nat.eq_of_beq_eq_true hc.2;subst h1 h2;have hpos:0<szC c':=(TSl.elem (k:=(⟨hT⟩:TSl P t e (szC c') by_))).pos;refine ⟨fun {κ a o'} ho hE hH hW hf K Q hK=>?_⟩;obtain ⟨hN,vs,h4,h5⟩:=hH.blk hb;have hr:=hE1 hE hx;obtain ⟨w',vs',k1,k2,k3,k4⟩:=zgU (u:=u) (ty:=o'.type) hT h4 h5 (Qo hE (hV▸hH.vis) hpos hl2);rw [<-hr.2.1] at k1;have hrun:(execOp a.eval o').run P κ.w=.ok (.value (.int .i64 ((min l2.length l1.length:Nat):Int))) w':=by
      simp only [execOp,ho,resolve,invoke,builtin,Sem.run_bind,Sem.run_pure,Result.andThen_ok,List.map_toArray,List.map_cons,List.map_nil,k1]
     unfold Oper.wp;rw [hrun];have hlen:(l2.take l1.length++l1.drop l2.length).length=l1.length:=by rw [List.length_append,List.length_take,List.length_drop];omega
     have hle:κ.Le (κ.to w'):=zkJ (wr:=[id]) hH (k4.mono fun g _ hg=>⟨id,_,List.mem_singleton.2 rfl,hb,rfl,hg⟩);exact hK _ (κ.to w') (zaM hH hb rfl k4 ⟨vs',by rw [hlen];exact k2,All2.imp (fun _ _ k=>RepF.mono hle k) k3⟩ rfl (RepF.val _ rfl))
   .cases h
  .cases h
 .cases h
end
end G
end Go.Proofs.YtbijabmjbgplbaaGreatDoor
namespace Go.Proofs.YtbijabmjbgplbaaGreatDoor
open Go.ChangeShapes Go.WideShapes Go.RowKit
namespace G
def keyT:(k:EC)->Value->Option (T k)
 | .int,.int .i64 n=>some n
 | .str,.string b=>some b.data.toList
 | _,_=>none
theorem znR {k:EC} {v:Value} {x:T k} (h:keyT k v=some x):v=vl k x:=by
 unfold keyT at h;split at h
 .cases h;rfl
 .rename_i b;cases h;show Value.string b=Sv _;simp [Sv]
 .cases h
section
variable {κ:Kn} {k:EC} {d:TypeDesc} {R:Type} {r:R}
def zj2 (o:zbr k d) (kx:T k) (K:X1->Option R) (Z:Option R):List (Value×X1)->Option R
 | []=>Z
 | p::l=>match keyT k p.1 with
  | some y=>bif @decide (kx=y) (o.dec kx y) then K p.2 else zj2 o kx K Z l
  | none=>none
def za2 (o:zbr k d) (kx:T k):List (Value×X1)->Option X1
 | []=>none
 | p::l=>match keyT k p.1 with
  | some y=>bif @decide (kx=y) (o.dec kx y) then some p.2 else za2 o kx l
  | none=>none
def zgM (k:EC) (l:List (Value×X1)):Bool:=l.all fun p=>(keyT k p.1).isSome
theorem zij {o:zbr k d} {kx:T k} {K:X1->Option R} {Z:Option R}:∀{l:List (Value×X1)},zj2 o kx K Z l=some r->(match za2 o kx l with|some a=>K a|none=>Z)=some r
 | [],h=>h
 | p::l,h=>by
  unfold zj2 at h;unfold za2;split at h
  .rename_i y hy
   cases hb:@decide (kx=y) (o.dec kx y)
   .rw [hb] at h;exact zij h
   .rw [hb] at h;exact h
  .cases h
theorem QN (o:zbr k d) (kx:T k):∀{l:List (Value×X1)} {es:List MapEntry},All2 (fun x e=>e.key=x.1/\Rep1 κ x.2 e.val) l es->zgM k l=true->∀i,
  match za2 o kx l with
  | some a=>∃j v,Instr.findNow d (vl k kx) es i=some (some (j,v))/\Rep1 κ a v
  | none=>Instr.findNow d (vl k kx) es i=some none
 | [],es,h,_,i=>by cases h;rfl
 | p::l,es,h,hk,i=>by
  cases h with
  | @cons _ e _ es a t =>
   obtain ⟨a1,a2⟩:=a;unfold zgM at hk;rw [List.all_cons,Bool.and_eq_true] at hk;obtain ⟨y,hy⟩:=Option.isSome_iff_exists.1 hk.1;have hv:=znR hy;have hs:=o.same kx y;unfold za2;rw [hy];simp only;cases hb:@decide (kx=y) (o.dec kx y)
   .rw [cond_false]
    rw [hb] at hs;have hstep:Instr.findNow d (vl k kx) (e::es) i=Instr.findNow d (vl k kx) es (i+1):=by simp [Instr.findNow,a1,hv,hs]
    rw [hstep];exact QN o kx t hk.2 (i+1)
   .rw [cond_true]
    rw [hb] at hs;exact ⟨i,e.val,by simp [Instr.findNow,a1,hv,hs],a2⟩
end
def zml (P:Program) (t:TypeId):Option EC :=
 match P.underlying t with
 | some (.map k _)=>match P.underlying k with
  | some (.int .i64)=>some .int
  | some .string=>some .str
  | _=>none
 | _=>none
def znd (P:Program) (t:TypeId):Option X1 :=
 match (P.info? t).bind (·.zero) with
 | some (.agg vs)=>bif vs.toList.all (·.oneCell') then some (.ag (vs.toList.map cst)) else none
 | some z=>bif z.oneCell' then some (.one (cst z)) else none
 | none=>none
theorem zkV {P:Program} {t:TypeId} {x:X1} (h:znd P t=some x) (κ:Kn):∃z,(zeroValue t).run P κ.w=.ok z κ.w/\Rep1 κ x z:=by
 unfold znd at h;split at h
 .rename_i vs hz
  cases hb:vs.toList.all (·.oneCell')
  .rw [hb] at h;cases h
  .rw [hb] at h
   cases h;have:zaH P t (.agg vs):=⟨hz⟩;exact ⟨.agg vs,zaH.run κ.w,vs.toList,by simp,QL hb⟩
 .rename_i z _ hz
  cases hb:z.oneCell'
  .rw [hb] at h;cases h
  .rw [hb] at h
   cases h;have:zaH P t z:=⟨hz⟩;exact ⟨z,zaH.run κ.w,zcQ hb⟩
 .cases h
section
variable {P:Program} {E:Operand->XA} {H:Nat->Option XB} {R:Type} {K:Upd->Option R} {r:R} {m:Option R} {x y z:Operand} {t:TypeId} {q:Nat}
def lookA (ok:Bool) (a:X1) (b:Bool):XA:=bif ok then .tu [a,.one (.bl b)] else a.xa
def zck (P:Program) (E:Operand->XA) (H:Nat->Option XB) (t:TypeId) (x y:Operand) (ok:Bool) (K:Upd->Option R):Option (Option R) :=
 match E x,E y with
 | .one (.m id),.one key =>
  match H id with
  | some (.cm l) =>
   match (zml P t).bind keyOk' with
   | some ⟨k,d,o⟩ =>
    match mapT P t d,JM k key with
    | some (_,e),some kx=>match znd P e with
     | some z0=>bif zgM k l then some (zj2 o kx (fun a=>K (lookA ok a true).x) (K (lookA ok z0 false).x) l) else none
     | none=>none
    | _,_=>none
   | none=>none
  | _=>none
 | _,_=>none
where keyOk' (k:EC):Option ((k:EC)×(d:TypeDesc)×zbr k d):=(zc0 k).map fun p=>⟨k,p.1,p.2⟩
theorem zfT {k:EC} {p:(k:EC)×(d:TypeDesc)×zbr k d} (h:zck.keyOk' k=some p):zc0 p.1=some ⟨p.2.1,p.2.2⟩:=by
 unfold zck.keyOk' at h;obtain ⟨q,h1,rfl⟩:=Option.map_eq_some_iff.1 h;exact h1
theorem zlh {κ:Kn} {k:EC} {d:TypeDesc} {o:zbr k d} {key:XV} {kx:T k} {v:Value} (hk:zc0 k=some ⟨d,o⟩) (hkx:JM k key=some kx) (h:RepX κ key v):v=vl k kx:=by
 have h1:=VF hkx h;cases k with
 | int=>exact zaD (c:=.int) rfl (x:=kx) h1
 | str=>exact zaD (c:=.str) rfl (x:=kx) h1
 | _=>cases hk
theorem zg_ {ok:Bool} (h:zck P E H t x y ok K=some m) (hm:m=some r):∃u,K u=some r/\u.wr=[]/\Says P E H (.lookup t x y ok) u:=by
 unfold zck at h;split at h
 .rename_i id key hx hy
  split at h
  .rename_i l hb
   split at h
   .rename_i k d o hk0
    obtain ⟨k',_,hk1⟩:=Option.bind_eq_some_iff.1 hk0;have hk:=zfT hk1;simp only at hk;split at h
    .rename_i kt e kx hT hkx
     split at h
     .rename_i z0 hz
      obtain ⟨hm1,hm2⟩:=zfY hT;cases hks:zgM k l
      .rw [hks] at h;cases h
      rw [hks,cond_true] at h;cases h;have hf:=zij hm;have common:∀{κ:Kn} {a:Act},(∀x,RepA κ (E x) (a.eval x))->HOk κ H->∃b es clock,a.eval x=.map (some b)/\a.eval y=vl k kx/\All2 (fun x e=>e.key=x.1/\Rep1 κ x.2 e.val) l es/\∀bb rr,(Instr.findNow d (vl k kx) es 0=some rr->(do Instr.checkKey bb 10000 kt (vl k kx);Instr.findKey kt (vl k kx) es:Sem _).run P κ.w=.ok rr κ.w)/\(getObj b).run P κ.w=.ok (.map es.toArray clock) κ.w:=fun {κ a} hE hH=>by
       obtain ⟨hN,b,es,clock,g1,g2,g3⟩:=hH.blk hb;refine ⟨b,es,clock,(hE1 hE hx).2.1.trans g1,zlh hk hkx (hE1 hE hy),g3,fun bb rr=>⟨fun h1=>?_,MapKept.run_getObj_map (P:=P) g2⟩⟩;have hck:(Instr.checkKey bb 10000 kt (vl k kx)).run P κ.w=.ok () κ.w:=MapKept.run_checkKey hm2 (isKey hk kx) bb 9999;have hf':(Instr.findKey kt (vl k kx) es).run P κ.w=.ok rr κ.w:=MapKept.run_findKey hm2 h1;simp [hck,hf']
      cases hfc:za2 o kx l with
      | some a =>
       rw [hfc] at hf;refine ⟨_,hf,rfl,yS fun {κ ac o'} ho hE hH=>?_⟩;obtain ⟨b,es,clock,c1,c2,c3,c4⟩:=common hE hH;have h1:=QN (κ:=κ) o kx c3 hks 0;rw [hfc] at h1;obtain ⟨j,v,h2,h3⟩:=h1;have hck:∀bb,(Instr.checkKey bb 10000 kt (vl k kx)).run P κ.w=.ok () κ.w:=fun bb=>MapKept.run_checkKey hm2 (isKey hk kx) bb 9999;have hf':(Instr.findKey kt (vl k kx) es).run P κ.w=.ok (some (j,v)) κ.w:=MapKept.run_findKey hm2 h2;have hget:=(c4 true none).2;have main:(Instr.lookup t (ac.eval x) (vl k kx) ok).run P κ.w=.ok (if ok then .tuple #[v,.bool true] else v) κ.w:=by
        simp [Instr.lookup,c1,run_underlying hm1,hget,hck,hf']
       refine ⟨if ok then .tuple #[v,.bool true] else v,by simp only [execOp,ho,c2,Sem.run_bind,main,Result.andThen_ok,Sem.run_pure],?_⟩;cases ok with
       | false=>exact UY.2 h3
       | true=>exact ⟨[v,.bool true],rfl,.cons h3 (.cons (RepF.val _ rfl) .nil)⟩
      | none =>
       rw [hfc] at hf;refine ⟨_,hf,rfl,yS fun {κ ac o'} ho hE hH=>?_⟩;obtain ⟨b,es,clock,c1,c2,c3,c4⟩:=common hE hH;have h2:=QN (κ:=κ) o kx c3 hks 0;rw [hfc] at h2;have h2:Instr.findNow d (vl k kx) es 0=some none:=h2;obtain ⟨zv,hzv,h3⟩:=zkV hz κ;have hck:∀bb,(Instr.checkKey bb 10000 kt (vl k kx)).run P κ.w=.ok () κ.w:=fun bb=>MapKept.run_checkKey hm2 (isKey hk kx) bb 9999;have hf':(Instr.findKey kt (vl k kx) es).run P κ.w=.ok none κ.w:=MapKept.run_findKey hm2 h2;have hget:=(c4 true none).2;have main:(Instr.lookup t (ac.eval x) (vl k kx) ok).run P κ.w=.ok (if ok then .tuple #[zv,.bool false] else zv) κ.w:=by
        simp [Instr.lookup,c1,run_underlying hm1,hget,hck,hf',hzv]
       refine ⟨if ok then .tuple #[zv,.bool false] else zv,by simp only [execOp,ho,c2,Sem.run_bind,main,Result.andThen_ok,Sem.run_pure],?_⟩;cases ok with
       | false=>exact UY.2 h3
       | true=>exact ⟨[zv,.bool false],rfl,.cons h3 (.cons (RepF.val _ rfl) .nil)⟩
     .cases h
    .cases h
   .cases h
  .cases h
 .cases h
def zk0 (P:Program) (t:TypeId) (q:Nat):Option Upd:=(zml P t).map fun _=>⟨.one (.m q),[(q,some (.cm []))],[q],[]⟩
theorem zha {u:Upd} (h:zk0 P t q=some u):Says P E H (.makeMap t none) u:=by
 obtain ⟨_,_,rfl⟩:=Option.map_eq_some_iff.1 h;refine ⟨fun {κ a o'} ho hE hH hW hf K Q hK=>?_⟩;have hq:¬κ.N q:=hf q (List.mem_singleton.2 rfl);have hrun:(execOp a.eval o').run P κ.w=.ok (.value (.map (some κ.w.heap.size))) (κ.w.alloc (.map #[] 0)):=by
  simp only [execOp,ho,Option.map_none,Sem.run_bind,run_makeMap,Result.andThen];rfl
 unfold Oper.wp;rw [hrun];have hfr:Fr (Touch κ H []) κ.w (κ.w.alloc (.map #[] 0)):=Fr.alloc _ _ _;exact hK _ (κ.bind q (.map (some κ.w.heap.size)) _) (XJ (x:=.cm []) (v:=.one (.m q)) (wr:=[]) hH hW hq hfr ⟨κ.w.heap.size,[],0,jH,World.alloc_heap_new κ.w _,.nil⟩ ⟨.inr rfl,jH.symm,rfl⟩ fun _ b hb=>.inr (by cases hb;exact Nat.le_refl _))
def x1Of:XA->Option X1
 | .one .any=>none
 | .one x=>some (.one x)
 | .ag cs=>some (.ag cs)
 | .tu _=>none
theorem zkU {κ:Kn} {a:XA} {x:X1} {v:Value} (h:x1Of a=some x) (hr:RepA κ a v):Rep1 κ x v:=by
 unfold x1Of at h;split at h
 .cases h
 .cases h;exact hr
 .cases h;exact hr
 .cases h
def zjy (P:Program) (E:Operand->XA) (H:Nat->Option XB) (t:TypeId) (x y z:Operand):Option Upd :=
 match E x,E y with
 | .one (.m id),.one key =>
  match H id with
  | some (.cm l) =>
   match (zml P t).bind zck.keyOk' with
   | some ⟨k,d,o⟩ =>
    match mapT P t d,JM k key,x1Of (E z) with
    | some _,some kx,some vx=>bif zgM k l&&(za2 o kx l).isNone then some ⟨.one .any,[(id,some (.cm (l++[(vl k kx,vx)])))],[],[id]⟩ else none
    | _,_,_=>none
   | none=>none
  | _=>none
 | _,_=>none
theorem zft {u:Upd} {op:Op} (hop:op=.mapUpdate t x y z\/op=.insert t x y z) (h:zjy P E H t x y z=some u):Says P E H op u:=by
 unfold zjy at h;split at h
 .rename_i id key hx hy
  split at h
  .rename_i l hb
   split at h
   .rename_i k d o hk0
    obtain ⟨k',_,hk1⟩:=Option.bind_eq_some_iff.1 hk0;have hk:=zfT hk1;simp only at hk;split at h
    .rename_i tt kx vx hT hkx hvx
     cases hv:(zgM k l&&(za2 o kx l).isNone)
     .rw [hv] at h;cases h
     .rw [hv,cond_true] at h
      cases h;rw [Bool.and_eq_true] at hv;obtain ⟨hks,hno⟩:=hv;obtain ⟨kt,e⟩:=tt;obtain ⟨hm1,hm2⟩:=zfY hT;refine ⟨fun {κ a o'} ho hE hH hW hf K Q hK=>?_⟩;obtain ⟨hN,b,es,clock,g1,g2,g3⟩:=hH.blk hb;have hev:a.eval x=.map (some b):=(hE1 hE hx).2.1.trans g1;have hkey:a.eval y=vl k kx:=zlh hk hkx (hE1 hE hy);have hval:=zkU hvx (hE z);have h2:=QN (κ:=κ) o kx g3 hks 0;rw [Option.isNone_iff_eq_none.1 hno] at h2;have h2:Instr.findNow d (vl k kx) es 0=some none:=h2;have hck:∀bb,(Instr.checkKey bb 10000 kt (vl k kx)).run P κ.w=.ok () κ.w:=fun bb=>MapKept.run_checkKey hm2 (isKey hk kx) bb 9999;have hget:=MapKept.run_getObj_map (P:=P) g2;have hf':(Instr.findKey kt (vl k kx) es).run P κ.w=.ok none κ.w:=MapKept.run_findKey hm2 h2;have hset:=MapKept.run_setObj_map (P:=P) (.map (es++[(⟨vl k kx,a.eval z,clock⟩:MapEntry)]).toArray (clock+1)) g2;have hrun:(Instr.mapUpdate t (.map (some b)) (vl k kx) (a.eval z)).run P κ.w=.ok () (κ.w.putObj b (.map (es++[(⟨vl k kx,a.eval z,clock⟩:MapEntry)]).toArray (clock+1))):=by
       simp [Instr.mapUpdate,run_underlying hm1,hget,hck,hf'];simpa [World.putObj] using hset
      have hrun2:(execOp a.eval o').run P κ.w=.ok .skip (κ.w.putObj b (.map (es++[(⟨vl k kx,a.eval z,clock⟩:MapEntry)]).toArray (clock+1))):=by
       rcases hop with rfl|rfl<;>simp only [execOp,ho,hev,hkey,Sem.run_bind,hrun,Result.andThen_ok,Sem.run_pure]
      unfold Oper.wp;rw [hrun2];have hfr:Fr (fun g=>yV (κ.ρ id)=some g) κ.w (κ.w.putObj b (.map (es++[(⟨vl k kx,a.eval z,clock⟩:MapEntry)]).toArray (clock+1))):=Fr.putObj _ _ _ (by rw [g1];rfl);have hle:=zkJ (wr:=[id]) hH (hfr.mono fun x _ hx=>⟨id,_,List.mem_singleton.2 rfl,hb,rfl,hx⟩);refine hK _ (κ.to _) (zaM hH hb rfl hfr ⟨b,_,clock+1,g1,World.putObj_heap_same (Array.getElem?_eq_some_iff.1 g2).1,?_⟩ rfl trivial);refine All2.append (g3.imp fun p e h=>⟨h.1,h.2.mono hle⟩) (.cons ⟨rfl,hval.mono hle⟩ .nil)
    .cases h
   .cases h
  .cases h
 .cases h
end
end G
end Go.Proofs.YtbijabmjbgplbaaGreatDoor
namespace Go.Proofs.YtbijabmjbgplbaaGreatDoor
open Go.ChangeShapes Go.WideShapes Go.RowKit
namespace G
section
variable {P:Program} {E:Operand->XA} {H:Nat->Option XB} {R:Type} {K:Upd->Option R} {r:R} {m:Option R}
theorem JR {κ:Kn} {H:Nat->Option XB} {b:Nat} (h:Touch κ H [] b):False:=by obtain ⟨_,_,h,_⟩:=h;cases h
theorem Says.vis {o:Op} {u:Upd} (h:Says P E (vis H) o u) (hw:u.wr=[]):Says P E H o u:=⟨fun {κ a o'} ho hE hH hW hf K Q hK=>h.go ho hE hH.vis hW hf K Q fun v κ' e=>hK v κ' (by
 have e1:=e.Rn;have e2:=e.fr;have e3:=e.old;rw [hw] at e1 e2 e3;refine ⟨e.ext,e.new,e.R,fun b hb=>?_,?_,e.val,e.hok,fun i x b hx hl hb=>?_,e.wr⟩
 .rcases e1 b hb with h|h|h
  .exact .inl h
  .exact (JR h).elim
  .exact .inr (.inr h)
 .exact e2.mono fun b _ h=>(JR h).elim
 .exact .inr ((e3 i x b hx hl hb).resolve_left JR))⟩
theorem Says.frz {o:Op} {u:Upd} {q:Nat} {x:XB} {y:XV} (hb:H q=some x) (ho:x.own=true) (hy:frzB (rsB H x)=some y) {H':Nat->Option XB} (hH':∀id,H' id=if id=q then some (.fz y) else H id)
  (h:Says P (fun o=>rsA H' (E o)) H' o u):Says P E H o ⟨u.v,u.bl++[(q,some (.fz y))],u.ids,q::u.wr⟩:=⟨fun {κ a o'} ho' hE hH hW hf K Q hK=>by
 obtain ⟨hN,hB⟩:=hH.blk hb;have hle1:=zdX κ q;have hH1:HOk (κ.frz q) H':=by
  have hat:∀{i z},H' i=some z->(i=q/\z=.fz y)\/(i≠q/\H i=some z):=fun {i z} hi=>by
   rw [hH'] at hi;split at hi
   .rename_i e;cases hi;exact .inl ⟨e,rfl⟩
   .rename_i e;exact .inr ⟨e,hi⟩
  refine ⟨fun {i z} hi=>?_,fun {i j z z' b} hi hj l1 l2 b1 b2=>?_,fun {i z b} hi l b1 hR=>?_⟩
  .rcases hat hi with ⟨rfl,rfl⟩|⟨_,h2⟩
   .exact ⟨hN,zbj hy (zdf hH hB)⟩
   .obtain ⟨h3,h4⟩:=hH.blk h2
    exact ⟨h3,h4.mono hle1 h3 fun _ _ _ _=>rfl⟩
  .rcases hat hi with ⟨rfl,rfl⟩|⟨_,h2⟩
   .cases l1
   .rcases hat hj with ⟨rfl,rfl⟩|⟨_,h3⟩
    .cases l2
    .exact hH.inj h2 h3 l1 l2 b1 b2
  .rcases hat hi with ⟨rfl,rfl⟩|⟨h1,h2⟩
   .cases l
   .rcases hR with hR|hR
    .exact hH.notR h2 l b1 hR
    .exact h1 (hH.inj h2 hb l (Xl ho) b1 hR)
 have hW1:WOk (κ.frz q):=⟨fun b hR=>hR.elim (hW.ult b) fun hR=>hB.lt (Xl ho) hR,fun b p e=>by obtain ⟨h1,h2⟩:=hW.tab b p e;exact ⟨.inl h1,h2⟩,hW.fin⟩;refine h.go (κ:=κ.frz q) ho' (fun x=>zde hH1 ((hE x).mono hle1)) hH1 hW1 hf K Q fun v κ' e=>hK v κ' ?_;have hT:∀b,Touch (κ.frz q) H' u.wr b->Touch κ H (q::u.wr) b:=fun b ⟨i,z,h1,h2,h3,h4⟩=>by
  rw [hH'] at h2;split at h2
  .cases h2;cases h3
  .exact ⟨i,z,List.mem_cons_of_mem _ h1,h2,h3,h4⟩
 have hTq:∀b,yV (κ.ρ q)=some b->Touch κ H (q::u.wr) b:=fun b hb'=>⟨q,x,List.mem_cons_self ..,hb,ho,hb'⟩;have hle2:=e.le hH1;have hfz:uO κ' q (.fz y):=by
  have:uO (κ.frz q) q (.fz y):=zbj hy (zdf hH hB);exact this.mono hle2 hN nofun
 have hlk:∀{i z},look (u.bl++[(q,some (.fz y))]) i=some z->look u.bl i=some z\/(i=q/\z=.fz y):=fun {i z} hi=>by
  by_cases hk:i∈keys u.bl
  .rw [jI hk] at hi;exact .inl hi
  .rw [uJ hk,kJ] at hi
   split at hi
   .rename_i e';cases hi;exact .inr ⟨e'.symm,rfl⟩
   .cases hi
 refine ⟨e.ext,e.new,fun b hb=>e.R b (.inl hb),fun b hb=>?_,e.fr.mono fun b _=>hT b,e.val,⟨fun {i z} hi=>?_,fun {i j z z' b} hi hj l1 l2 b1 b2=>?_,fun {i z b} hi l b1=>?_⟩,fun i z b hi l b1=>?_,fun i hi=>?_⟩
 .rcases e.Rn b hb with (h1|h1)|h1|h1
  .exact .inl h1
  .exact .inr (.inl (hTq b h1))
  .exact .inr (.inl (hT b h1))
  .exact .inr (.inr h1)
 .rcases hlk hi with h1|⟨rfl,rfl⟩
  .exact e.hok.blk h1
  .exact ⟨(e.ext _ hN).1,hfz⟩
 .rcases hlk hi with h1|⟨rfl,rfl⟩
  .rcases hlk hj with h2|⟨rfl,rfl⟩
   .exact e.hok.inj h1 h2 l1 l2 b1 b2
   .cases l2
  .cases l1
 .rcases hlk hi with h1|⟨rfl,rfl⟩
  .exact e.hok.notR h1 l b1
  .cases l
 .rcases hlk hi with h1|⟨rfl,rfl⟩
  .exact (e.old i z b h1 l b1).imp (hT b) fun h=>h
  .cases l
 .show i∈keys (u.bl++_)
  unfold keys;rw [List.map_append,List.mem_append];rcases List.mem_cons.1 hi with rfl|hi
  .right;simp
  .left;exact e.wr i hi⟩
structure FnK (P:Program) (f:FuncId) (ct:Ctr):Prop where
 ent:∀(args:Array Value) (w:World),(callFunc f args).run P w=.ok (.enter f args) w
 c:FnC P f ct
structure Jz (P:Program) (f:FuncId) (e:TypeId) (c:EC):Prop where
 ent:∀(args:Array Value) (w:World),(callFunc f args).run P w=.ok (.enter f args) w
 go:∀{κ:Kn} {l:List (T c)} {v:Value},WOk κ->Src κ.R κ.w c l v->l.length<=4000000->Calls P f #[v] κ.w fun ex w'=>∃v' vs,ex=.returned v'/\ku w' e (szC c) v' l.length vs/\Xq κ.R κ.w c l vs/\Below κ.w.heap.size κ.w w'/\(∀b,yV v'=some b->κ.w.heap.size<=b)/\v'.oneCell'=true
structure Ctab where
 c:Nat->List Ctr
 cl:Nat->Option (TypeId×EC)
structure VI (P:Program) (Ct:Ctab):Prop where
 c:∀f ct,ct∈Ct.c f->FnK P f ct
 cl:∀f e c,Ct.cl f=some (e,c)->Jz P f e c
def tryC (H:Nat->Option XB) (xs:List XA) (q:Nat) (K:Upd->Option R):List Ctr->Option (Option R)
 | []=>none
 | ct::r=>match znl H xs q ct K with
  | some m=>some m
  | none=>tryC H xs q K r
theorem zlw {xs:List XA} {q:Nat}:∀{l:List Ctr},tryC H xs q K l=some m->m=some r->∃ct x b y,ct∈l/\zfv H xs q ct=some (x,b)/\ct.m x=some y/\K (zbz ct q b (sel ct.alts y))=some r
 | [],h,hm=>by cases h
 | ct::l,h,hm=>by
  unfold tryC at h;split at h
  .rename_i m' hm'
   cases h;unfold znl at hm';split at hm'
   .rename_i x b hx
    cases hm';obtain ⟨y,h1,h2⟩:=Md.JD hm;exact ⟨ct,x,b,y,List.mem_cons_self ..,hx,h1,zii _ h2⟩
   .cases hm'
  .obtain ⟨ct',x,b,y,h1,h2⟩:=zlw h hm
   exact ⟨ct',x,b,y,List.mem_cons_of_mem _ h1,h2⟩
def callArgs (E:Operand->XA) (mt:Bool) (args:List Operand) (caps:List XV):List XA:=bif mt then caps.map .one++args.map E else args.map E++caps.map .one
theorem zbG {κ:Kn} {a:Act} (hE:∀x,RepA κ (E x) (a.eval x)):∀xs:List Operand,All2 (RepA κ) (xs.map E) (xs.map a.eval)
 | []=>.nil
 | x::xs=>.cons (hE x) (zbG hE xs)
theorem zhD {x:Operand} {args:Array Operand} {tys:Array TypeId} {mt:Bool} {f:FuncId} {caps:List XV} (hx:E x=.one (.fn mt f caps)) (hent:∀(args:Array Value) (w:World),(callFunc f args).run P w=.ok (.enter f args) w)
  {κ:Kn} {a:Act} {o':Oper} (ho:o'.op=.call { callee:=.value x,args:=args,argTypes:=tys }) (hE:∀x,RepA κ (E x) (a.eval x)) :
  ∃vs:List Value,(execOp a.eval o').run P κ.w=.ok (.enter f vs.toArray) κ.w/\All2 (RepA κ) (callArgs E mt args.toList caps) vs:=by
 obtain ⟨vs,h1,h2⟩:=hE1 hE hx;have h2:=Wu.1 h2;have hc:All2 (RepA κ) (caps.map .one) vs:=zaj.2 h2;obtain ⟨args⟩:=args;cases mt with
 | false =>
  refine ⟨args.map a.eval++vs,?_,(zbG hE args).append hc⟩;simp only [execOp,ho,resolve,Sem.run_bind,Sem.run_pure,Result.andThen_ok];have:(Deferred.ofValue (a.eval x) (Array.map a.eval args.toArray)).run P κ.w=.ok { target:=.fn (.func f) vs.toArray,args:=(args.map a.eval).toArray } κ.w:=by
   simp [h1,fnV,Deferred.ofValue]
  rw [this];simp only [Result.andThen_ok,invoke];have e:(args.map a.eval).toArray++vs.toArray=(args.map a.eval++vs).toArray:=by simp
  rw [e];exact hent _ _
 | true =>
  refine ⟨vs++args.map a.eval,?_,hc.append (zbG hE args)⟩;simp only [execOp,ho,resolve,Sem.run_bind,Sem.run_pure,Result.andThen_ok];have:(Deferred.ofValue (a.eval x) (Array.map a.eval args.toArray)).run P κ.w=.ok { target:=.fn (.func f) #[],args:=(vs++args.map a.eval).toArray } κ.w:=by
   simp [h1,fnV,Deferred.ofValue]
  rw [this];simp only [Result.andThen_ok,invoke,Array.append_empty];exact hent _ _
def zkZ (H:Nat->Option XB) (xs:List XA) (e:TypeId) (c:EC) (q:Nat) (K:Upd->Option R):Option (Option R) :=
 match xs with
 | [x]=>bif Nat.blt 0 (szC c) then
   (match x with
   | .one .nil=>some (K ⟨.one (.own q),[(q,some (.row e c []))],[q],[]⟩)
   | x=>match zkh H x with
    | some ⟨c',l⟩=>if h:c'=c then some (Md.ifp (l.length<=4000000) (K ⟨.one (.own q),[(q,some (.row e c (h▸l)))],[q],[]⟩)) else none
    | none=>none) else none
 | _=>none
theorem zcp {f:FuncId} {e:TypeId} {c:EC} {l:List (T c)} {q:Nat} {op:Op} {x:XA} (hk:Jz P f e c) (hsrc:∀{κ:Kn} {v:Value},HOk κ H->RepA κ x v->Src κ.R κ.w c l v) (hl:l.length<=4000000)
  (hop:∀{κ:Kn} {a:Act} {o':Oper},o'.op=op->(∀x,RepA κ (E x) (a.eval x))->∃vs:List Value,(execOp a.eval o').run P κ.w=.ok (.enter f vs.toArray) κ.w/\All2 (RepA κ) [x] vs) :
  Says P E H op ⟨.one (.own q),[(q,some (.row e c l))],[q],[]⟩:=by
 refine ⟨fun {κ a o'} ho hE hH hW hf K Q hK=>?_⟩;have hq:¬κ.N q:=hf q (List.mem_singleton.2 rfl);obtain ⟨vs,hrun,hr⟩:=hop ho hE;cases hr with
 | @cons _ v _ _ a1 t =>
  cases t;unfold Oper.wp;rw [hrun,Oper.upon_enter];refine Calls.mono (hk.go hW (hsrc hH a1) hl) ?_;rintro ex w' ⟨v',us,rfl,h1,h2,h3,h4,h5⟩;have hfr:Fr (Touch κ H []) κ.w w':=(Fr.of_below h3).mono fun _ _ h=>h.elim;refine hK _ (κ.bind q v' w') (XJ (x:=.row e c l) (v:=.one (.own q)) (wr:=[]) hH hW hq hfr ⟨us,by rw [jH];exact h1,?_⟩ ⟨.inr rfl,jH.symm,h5⟩ fun _ b hb=>.inr (h4 b hb));exact All2.imp (fun _ _ k=>RepF.mono (QF (u:=v') (w':=w') hH hq hfr) k) h2
def zg8 (E:Operand->XA) (H:Nat->Option XB) (Ct:Ctab) (q:Nat) (x:Operand) (args:Array Operand) (K:Upd->Option R):Option (Option R) :=
 match E x with
 | .one (.fn mt f caps)=>match Ct.cl f with
  | some (e,c)=>zkZ (vis H) (callArgs E mt args.toList caps) e c q K
  | none=>tryC H (callArgs E mt args.toList caps) q K (Ct.c f)
 | _=>none
theorem zg9 {Ct:Ctab} (ht:VI P Ct) {q:Nat} {x:Operand} {args:Array Operand} {tys:Array TypeId} (h:zg8 E H Ct q x args K=some m) (hm:m=some r):∃u,K u=some r/\Says P E H (.call { callee:=.value x,args:=args,argTypes:=tys }) u:=by
 unfold zg8 at h;split at h
 .rename_i mt f caps hx
  split at h
  .rename_i e c hcl
   have hk:=ht.cl f e c hcl;unfold zkZ at h;split at h
   .rename_i y hxs
    cases hz:Nat.blt 0 (szC c)
    .rw [hz] at h;cases h
    .rw [hz,cond_true] at h
     have h0:0<szC c:=by rw [Nat.blt_eq] at hz;exact hz
     have hop:∀{κ:Kn} {a:Act} {o':Oper},o'.op=.call { callee:=.value x,args:=args,argTypes:=tys }->(∀x,RepA κ (E x) (a.eval x))->∃vs:List Value,(execOp a.eval o').run P κ.w=.ok (.enter f vs.toArray) κ.w/\All2 (RepA κ) [y] vs:=fun {κ a o'} ho hE=>by
      obtain ⟨vs,h1,h2⟩:=zhD hx hk.ent ho hE;rw [hxs] at h2;exact ⟨vs,h1,h2⟩
     split at h
     .cases h
      refine ⟨_,hm,(zcp (E:=E) (H:=vis H) (l:=[]) hk (fun {κ v} _ hr=>?_) (Nat.zero_le _) hop).vis rfl⟩;have:v=.slice none 0 0:=WU (p:=.nil) rfl hr;rw [this];exact ⟨none,0,[],rfl,Nat.le_refl _,Nat.zero_le _,fun _=>rfl,Kit.Flat.nil _ _ _,.nil⟩
     .split at h
      .rename_i c' l hl
       split at h
       .rename_i hcc
        subst hcc;cases h;obtain ⟨hg,hK⟩:=Md.Xb hm;exact ⟨_,hK,(zcp (E:=E) (H:=vis H) hk (fun {κ v} hH hr=>zd4 hH h0 hl hr) hg hop).vis rfl⟩
       .cases h
      .cases h
   .cases h
  .obtain ⟨ct,y,b,z,h1,h2,h3,h4⟩:=zlw h hm
   have hk:=ht.c f ct h1;exact ⟨_,h4,zhF hk.c h2 h3 fun ho hE=>zhD hx hk.ent ho hE⟩
 .cases h
def pop (P:Program) (E:Operand->XA) (H:Nat->Option XB) (o:Op):Option XA :=
 match o with
 | .move x=>zmA E x
 | .assign x=>zmA E x
 | .pick c x y=>zmD E c x y
 | .unOp op xT x=>pUn E op x
 | .convert xT yT x=>match zmw P E xT yT x with
  | some r=>some r
  | none=>(zhe P E H xT yT x).map .one
 | .fieldAddr t x f=>ziM P E t x f
 | .field t x f=>ze6 P E t x f
 | .load t x=>zmy P E H t x
 | .extract x n=>zdc E x n
 | .nilCheck x=>zmC E x
 | .makeFunc f first caps=>zbV E f first caps
 | .lookup t x y ok=>zmz P E H t x y ok
 | .binOp op xT x y yT =>
  match (match y with|.const n=>pNil P E op xT x n|_=>none) with
  | some v=>some (.one v)
  | none=>match pBin P E op xT x y with
   | some v=>some (.one v)
   | none=>(zbW P E op xT x y).map .one
 | .call { callee:=.builtin .len,args:=⟨[x]⟩,argTypes:=⟨[t]⟩ }=>pLen P E H x t
 | .call { callee:=.builtin .max,args:=⟨[x,y]⟩,argTypes:=_ }=>pMin E true x y
 | .call { callee:=.builtin .min,args:=⟨[x,y]⟩,argTypes:=_ }=>pMin E false x y
 | _=>none
theorem zlq {o:Op} {v:XA} (h:pop P E H o=some v):Says P E H o v.x:=by
 unfold pop at h;split at h
 .exact zf2 (.inl rfl) h
 .exact zf2 (.inr rfl) h
 .exact zkz h
 .exact zn1 h
 .split at h
  .rename_i hr;cases h;exact zkv hr
  .obtain ⟨w,hw,rfl⟩:=Option.map_eq_some_iff.1 h
   exact zhf hw
 .exact ziN h
 .exact zgP h
 .exact zkw h
 .exact ze5 h
 .exact zky h
 .exact zd9 h
 .exact zkx h
 .rename_i op xT x y yT
  split at h
  .rename_i w hw
   cases h;split at hw
   .exact zmB hw
   .cases hw
  .split at h
   .rename_i w hw;cases h;exact zmv hw
   .obtain ⟨w,hw,rfl⟩:=Option.map_eq_some_iff.1 h
    exact zd_ hw
 .exact zmx h
 .exact ziO (mx:=true) h
 .exact ziO (mx:=false) h
 .cases h
def roK (K:Upd->Option R) (u:Upd):Option R:=match u.wr with
 | []=>K u
 | _=>none
theorem zn7 {u:Upd} (h:roK K u=some r):u.wr=[]/\K u=some r:=by
 unfold roK at h;split at h
 .rename_i hw;exact ⟨hw,h⟩
 .cases h
def aop (P:Program) (E:Operand->XA) (H:Nat->Option XB) (Ct:Ctab) (q:Nat) (o:Op) (K:Upd->Option R):Option (Option R) :=
 match pop P E (vis H) o with
 | some r=>some (K r.x)
 | none =>
  match o with
  | .load t x=>match zcJ P E (vis H) t x (roK K) with
   | some m=>some m
   | none=>zcI P E (vis H) t x (roK K)
  | .binOp op xT x y yT=>aBin E op x y K
  | .indexAddr t x y=>match aIdx P E (vis H) t x y (roK K) with
   | some m=>some m
   | none=>zez P E t x y (roK K)
  | .index t x y=>match zeE P E t x y K with
   | some m=>some m
   | none=>zex P E t x y K
  | .slice t x none (some hi) none=>match aCut P E t x none (some hi) K with
   | some m=>some m
   | none=>zeD P E H t x hi q K
  | .slice t x (some lo) none none=>match aCut P E t x (some lo) none K with
   | some m=>some m
   | none=>zlI P E (vis H) t x lo (roK K)
  | .slice t x lo hi none=>aCut P E t x lo hi K
  | .slice t x none (some hi) (some mx)=>zlF P E t x hi mx K
  | .alloc t=>(zkY P t q).map K
  | .box t x=>(aBox E x q).map K
  | .store t x y=>zhc P E H t x y K
  | .build t ps=>match zg6 P E t ps with
   | some u=>some (K u)
   | none=>(zbw P E t ps).map K
  | .buildSlice t L ps=>(aLit P E t L ps q).map K
  | .makeSlice t x y=>zaI P E t x y q K
  | .makeMap t none=>match zcK t q with
   | some u=>some (K u)
   | none=>(zk0 P t q).map K
  | .mapUpdate t x y z=>match aPut P E H t x y z with
   | some u=>some (K u)
   | none=>(zjy P E H t x y z).map K
  | .insert t x y z=>match aPut P E H t x y z with
   | some u=>some (K u)
   | none=>(zjy P E H t x y z).map K
  | .lookup t x y ok=>zck P E (vis H) t x y ok K
  | .call { callee:=.builtin .append,args:=⟨[x,y]⟩,argTypes:=⟨[t,u]⟩ }=>match zev P E H t u x y q K with
   | some m=>some m
   | none=>zcH P E H t u x y q K
  | .call { callee:=.builtin .copy,args:=⟨[x,y]⟩,argTypes:=⟨[t,_]⟩ }=>(zlE P E H (vis H) t x y).map K
  | .call { callee:=.value x,args:=args,argTypes:=tys }=>zg8 E H Ct q x args K
  | _=>none
theorem zhn {Ct:Ctab} (ht:VI P Ct) {q:Nat} {o:Op} (h:aop P E H Ct q o K=some m) (hm:m=some r):∃u,K u=some r/\Says P E H o u:=by
 unfold aop at h;split at h
 .rename_i v hv
  cases h;exact ⟨_,hm,(zlq hv).vis rfl⟩
 .have key:∀{o:Op} {w:Option Upd},w.map K=some m->(∀u,w=some u->Says P E H o u)->∃u,K u=some r/\Says P E H o u:=fun {o w} h hs=>by
   obtain ⟨u,hu,rfl⟩:=Option.map_eq_some_iff.1 h;exact ⟨u,hm,hs u hu⟩
  have ro:∀{o:Op},(∃u,roK K u=some r/\Says P E (vis H) o u)->∃u,K u=some r/\Says P E H o u:=fun {o} ⟨u,h1,h2⟩=>⟨u,(zn7 h1).2,h2.vis (zn7 h1).1⟩;split at h
  .split at h
   .rename_i hh;cases h;exact ro (zeB hh hm)
   .exact ro (zeA h hm)
  .exact zlC h hm
  .split at h
   .rename_i hh;cases h;exact ro (zlG hh hm)
   .exact ro (zgt h hm)
  .split at h
   .rename_i hh;cases h;exact zgv hh hm
   .exact zgs h hm
  .split at h
   .rename_i hh;cases h;exact zey hh hm
   .exact zgu h hm
  .split at h
   .rename_i hh;cases h;exact zey hh hm
   .exact ro (zjz h hm)
  .exact zey h hm
  .exact zjx h hm
  .exact key h fun u hu=>zg5 hu
  .exact key h fun u hu=>zlD hu
  .exact zhd h hm
  .split at h
   .rename_i u hu;cases h;exact ⟨u,hm,zg7 hu⟩
   .exact key h fun u hu=>zdB hu
  .exact key h fun u hu=>zlH hu
  .exact zcL h hm
  .split at h
   .rename_i u hu;cases h;exact ⟨u,hm,zeC hu⟩
   .exact key h fun u hu=>zha hu
  .split at h
   .rename_i u hu;cases h;exact ⟨u,hm,zhb (.inl rfl) hu⟩
   .exact key h fun u hu=>zft (.inl rfl) hu
  .split at h
   .rename_i u hu;cases h;exact ⟨u,hm,zhb (.inr rfl) hu⟩
   .exact key h fun u hu=>zft (.inr rfl) hu
  .obtain ⟨u,h1,h2,h3⟩:=zg_ h hm
   exact ⟨u,h1,h3.vis h2⟩
  .split at h
   .rename_i hh;cases h;exact zgr hh hm
   .exact zew h hm
  .exact key h fun u hu=>zjw rfl hu
  .exact zg9 ht h hm
  .cases h
def XV.rows:XV->List Nat
 | .own k=>[k]
 | .m k=>[k]
 | .vw k _ _=>[k]
 | .p k 0=>[k]
 | _=>[]
def dedup:List Nat->List Nat
 | []=>[]
 | a::l=>let r:=dedup l;bif memB r a then r else a::r
def L.dem:L->XV->List Nat
 | .val (.sl _),.own i=>[i]
 | .val (.sl _),.vw i _ _=>[i]
 | .val (.pt _),.p i _=>[i]
 | .val (.mp _ _),.m i=>[i]
 | _,_=>[]
def Ls.dem:List L->List XV->List Nat
 | s::ss,x::xs=>s.dem x++Ls.dem ss xs
 | _,_=>[]
def CS.dem:CS->XV->List Nat
 | .leaf s,x=>s.dem x
 | .clo _ _ ss,.fn _ _ xs=>Ls.dem ss xs
 | _,_=>[]
def GS.dem:List GS->List XV->List Nat
 | .cell s::ss,x::xs=>s.dem x++GS.dem ss xs
 | .part c::ss,xs=>(xs.take (szC c)).flatMap XV.rows++GS.dem ss (xs.drop (szC c))
 | _,_=>[]
def SH.dem:SH->XA->List Nat
 | .one s,.one x=>s.dem x
 | .ag l,.ag cs=>GS.dem l cs
 | _,_=>[]
def SHs.dem:List SH->List XA->List Nat
 | s::ss,x::xs=>s.dem x++SHs.dem ss xs
 | _,_=>[]
def BS.unrd:BS->BS
 | .rd s=>s.unrd
 | s=>s
def L.bnd (n0:Nat):L->XV->Bi->Bi
 | .row i,.own j,b=>(KA n0 b i j).getD b
 | .map i,.m j,b=>(KA n0 b i j).getD b
 | .ptr i _,.p j _,b=>(KA n0 b i j).getD b
 | .elt i _ _,.rp j _ _ _,b=>(KA n0 b i j).getD b
 | _,_,b=>b
def Ls.bnd (n0:Nat):List L->List XV->Bi->Bi
 | s::ss,x::xs,b=>Ls.bnd n0 ss xs (s.bnd n0 x b)
 | _,_,b=>b
def CS.bnd (n0:Nat):CS->XV->Bi->Bi
 | .leaf s,x,b=>s.bnd n0 x b
 | .clo _ _ ss,.fn _ _ xs,b=>Ls.bnd n0 ss xs b
 | _,_,b=>b
def GS.bnd (n0:Nat):List GS->List XV->Bi->Bi
 | .cell s::ss,x::xs,b=>GS.bnd n0 ss xs (s.bnd n0 x b)
 | .part c::ss,xs,b=>GS.bnd n0 ss (xs.drop (szC c)) b
 | _,_,b=>b
def SH.bnd (n0:Nat):SH->XA->Bi->Bi
 | .one s,.one x,b=>s.bnd n0 x b
 | .ag l,.ag cs,b=>GS.bnd n0 l cs b
 | _,_,b=>b
def SHs.bnd (n0:Nat):List SH->List XA->Bi->Bi
 | s::ss,x::xs,b=>SHs.bnd n0 ss xs (s.bnd n0 x b)
 | _,_,b=>b
def hbnd (n0:Nat) (H:Nat->Option XB):List (Nat×BS)->Bi->Bi
 | [],b=>b
 | (c,s)::r,b=>hbnd n0 H r (match s.unrd,((actO n0 b c).bind H).map XB.unrd with
  | .box l,some (.box cs)=>GS.bnd n0 l cs b
  | _,_=>b)
def hdem (n0:Nat) (H:Nat->Option XB) (b:Bi):List (Nat×BS)->List Nat
 | []=>[]
 | (c,s)::r=>(match s.unrd,((actO n0 b c).bind H).map XB.unrd with
  | .box l,some (.box cs)=>GS.dem l (cs.map (rs H))
  | .fz _,some x=>bif x.own then (actO n0 b c).toList else []
  | _,_=>[])++hdem n0 H b r
def zl2 (H:Nat->Option XB) (l:List Nat):List Nat :=
 dedup (l.flatMap fun i=>(match (H i).map XB.unrd with
  | some (.box cs)=>(cs.flatMap XV.rows).filter fun k=>match H k with
   | some x=>x.live
   | none=>false
  | _=>[])++[i])
def demC (H:Nat->Option XB) (xs:List XA) (ct:Ctr):List Nat :=
 zl2 H (SHs.dem (ct.k.e.map (·.2)) xs++hdem 0 H (hbnd 0 H ct.k.h (SHs.bnd 0 (ct.k.e.map (·.2)) xs [])) ct.k.h)
def cellsOf:XA->List XV
 | .one x=>[x]
 | .ag cs=>cs
 | .tu _=>[]
def dem (E:Operand->XA) (H:Nat->Option XB) (Ct:Ctab) (o:Op):List (List Nat) :=
 match o with
 | .buildSlice t L ps=>[dedup (ps.toList.flatMap fun p=>(cellsOf (E p.2)).flatMap XV.rows)]
 | .store t x y=>match E x with
  | .one (.rp _ _ _ _)=>[dedup ((cellsOf (E y)).flatMap XV.rows)]
  | _=>[]
 | .call { callee:=.value x,args:=args,argTypes:=tys }=>match E x with
  | .one (.fn mt f caps)=>(Ct.c f).map (demC H (callArgs E mt args.toList caps))
  | _=>[]
 | _=>[]
def frzd (q:Nat) (y:XV) (H:Nat->Option XB) (id:Nat):Option XB:=bif Nat.beq id q then some (.fz y) else H id
def aopZ (P:Program) (Ct:Ctab) (q:Nat) (o:Op):List Nat->(Operand->XA)->(Nat->Option XB)->(Upd->Option R)->Option (Option R)
 | [],E,H,K=>aop P E H Ct q o K
 | i::r,E,H,K =>
  match H i with
  | some x=>bif x.own then
    (match frzB (rsB H x) with
    | some y=>aopZ P Ct q o r (fun o=>rsA (frzd i y H) (E o)) (frzd i y H) fun u=>K ⟨u.v,u.bl++[(i,some (.fz y))],u.ids,i::u.wr⟩
    | none=>none) else none
  | none=>none
theorem zhm {Ct:Ctab} (ht:VI P Ct) {q:Nat} {o:Op}:∀{ids:List Nat} {E:Operand->XA} {H:Nat->Option XB} {K:Upd->Option R},aopZ P Ct q o ids E H K=some m->m=some r->∃u,K u=some r/\Says P E H o u
 | [],E,H,K,h,hm=>zhn ht h hm
 | i::ids,E,H,K,h,hm=>by
  unfold aopZ at h;split at h
  .rename_i x hx
   cases ho:x.own
   .rw [ho] at h;cases h
   .rw [ho,cond_true] at h
    split at h
    .rename_i y hy
     obtain ⟨u,h1,h2⟩:=zhm ht h hm;refine ⟨_,h1,h2.frz hx ho hy fun id=>?_⟩;show (bif Nat.beq id i then _ else _)=_;cases hb:Nat.beq id i
     .rw [if_neg (Nat.ne_of_beq_eq_false hb)];rfl
     .rw [if_pos (Nat.eq_of_beq_eq_true hb)];rfl
    .cases h
  .cases h
def firstM {α:Type} (f:α->Option (Option R)):List α->Option (Option R)
 | []=>none
 | l::r=>match f l with
  | some m=>some m
  | none=>firstM f r
theorem zcV {α:Type} {f:α->Option (Option R)}:∀{ls:List α},firstM f ls=some m->∃l,f l=some m
 | [],h=>by cases h
 | l::ls,h=>by
  unfold firstM at h;split at h
  .rename_i hh;cases h;exact ⟨l,hh⟩
  .exact zcV h
def zgV:XV->Bool
 | .i _ _=>true
 | .n _=>true
 | .z _ _=>true
 | .w8 _=>true
 | .w16 _=>true
 | .w32 _=>true
 | .w64 _=>true
 | .b _=>true
 | .bl _=>true
 | .s _=>true
 | .e _=>true
 | _=>false
def zi0:X1->Bool
 | .one x=>zgV x
 | .ag cs=>cs.all zgV
def zoa:XA->Bool
 | .one x=>zgV x
 | .ag cs=>cs.all zgV
 | .tu l=>l.all zi0
theorem zb4 {κ κ':Kn} {x:XV} {v:Value} (hx:zgV x=true) (h:RepX κ x v):RepX κ' x v:=by
 have key:∀{u:Value},RepF κ.R κ.w (.val u) v->RepF κ'.R κ'.w (.val u) v:=fun {u} h=>by
  cases h with|val _ h=>exact .val _ h
 cases x with
 | e b =>
  have h:RepF κ.R κ.w (.err b) v:=h;show RepF κ'.R κ'.w (.err b) v;cases h with
  | errn=>exact .errn
  | err t p=>exact .err t p
 | _=>first|exact key h|cases hx
theorem zb5 {κ κ':Kn}:∀{xs:List XV} {vs:List Value},xs.all zgV=true->All2 (RepX κ) xs vs->All2 (RepX κ') xs vs
 | [],vs,_,h=>by cases h;exact .nil
 | x::xs,vs,hx,h=>by
  rw [List.all_cons,Bool.and_eq_true] at hx;cases h with|cons a t=>exact .cons (zb4 hx.1 a) (zb5 hx.2 t)
theorem zgW {κ κ':Kn} {x:X1} {v:Value} (hx:zi0 x=true) (h:Rep1 κ x v):Rep1 κ' x v:=by
 cases x with
 | one x=>exact zb4 hx h
 | ag cs=>obtain ⟨vs,h1,h2⟩:=h;exact ⟨vs,h1,zb5 hx h2⟩
theorem ziZ {κ κ':Kn} {x:XA} {v:Value} (hx:zoa x=true) (h:RepA κ x v):RepA κ' x v:=by
 cases x with
 | one x=>exact zb4 hx h
 | ag cs=>obtain ⟨vs,h1,h2⟩:=h;exact ⟨vs,h1,zb5 hx h2⟩
 | tu l =>
  obtain ⟨vs,h1,h2⟩:=h;refine ⟨vs,h1,?_⟩;clear h1;have hx:l.all zi0=true:=hx
  induction h2 with
  | nil=>exact .nil
  | cons a t ih =>
   rw [List.all_cons,Bool.and_eq_true] at hx;exact .cons (zgW hx.1 a) (ih hx.2 hx.2)
def ziv (u:Upd):Bool:=u.bl.isEmpty&&(u.wr.isEmpty&&zoa u.v)
def zoT:L->Bool
 | .nat=>true
 | .val .int=>true
 | .val .bool=>true
 | .val .str=>true
 | .val .u8=>true
 | .val .u64=>true
 | .val .err=>true
 | .num _ _=>true
 | .lit _=>true
 | _=>false
def zob:SH->Bool
 | .one (.leaf s)=>zoT s
 | _=>false
def zoU:RS->Bool
 | .one s=>zob s
 | .tu l=>l.all zob
def zoI (ct:Ctr):Bool:=ct.wr.isEmpty&&ct.alts.all fun a=>a.h.isEmpty&&(a.gone.isEmpty&&zoU a.r)
def znT (Ct:Ctab):Ctab:=⟨fun f=>(Ct.c f).filter zoI,Ct.cl⟩
theorem zkg {Ct:Ctab} (ht:VI P Ct):VI P (znT Ct):=⟨fun f ct h=>ht.c f ct (List.mem_filter.1 h).1,ht.cl⟩
def aopL (P:Program) (Ct:Ctab) (q:Nat) (o:Op):List Nat->(Operand->XA)->(Nat->Option XB)->(Upd->Option R)->Option (Option R)
 | [],E,H,K=>aop P E H (znT Ct) q o fun u=>bif ziv u then K u else none
 | i::r,E,H,K =>
  match H i with
  | some x=>bif x.live then
    (match frzB (rsB H x.unrd) with
    | some y=>aopL P Ct q o r (fun o=>rsA (frzd i y H) (E o)) (frzd i y H) K
    | none=>none) else none
  | none=>none
theorem zmf {y:XV} {i j:Nat} (h:j≠i):frzd i y H j=H j:=by
 show (bif Nat.beq j i then _ else _)=_;cases hb:Nat.beq j i
 .rfl
 .exact absurd (Nat.eq_of_beq_eq_true hb) h
theorem zaq {y:XV} {i:Nat}:frzd i y H i=some (.fz y):=by
 show (bif Nat.beq i i then _ else _)=_;rw [Nat.beq_refl];rfl
theorem zj4 {κ:Kn} {i:Nat} {x:XB} {y:XV} (hH:HOk κ H) (hi:H i=some x) (hl:x.live=true) (hy:frzB (rsB H x.unrd)=some y):HOk (κ.frz i) (frzd i y H):=by
 have old:∀{j z},j≠i->frzd i y H j=some z->H j=some z:=fun {j z} h e=>by rw [zmf h] at e;exact e
 refine ⟨fun {j z} hj=>?_,fun {j k z z' b} hj hk h1 h2 h3 h4=>?_,fun {j z b} hj h1 h2 h3=>?_⟩
 .by_cases e:j=i
  .subst e
   rw [zaq] at hj;cases hj;exact ⟨(hH.blk hi).1,zbj hy (zdf hH (zdm (hH.blk hi).2).1)⟩
  .have h1:=hH.blk (old e hj)
   exact ⟨h1.1,h1.2.mono (zdX κ i) h1.1 fun _ _ _ _=>rfl⟩
 .by_cases e:j=i
  .subst e;rw [zaq] at hj;cases hj;cases h1
  .by_cases e':k=i
   .subst e';rw [zaq] at hk;cases hk;cases h2
   .exact hH.inj (old e hj) (old e' hk) h1 h2 h3 h4
 .by_cases e:j=i
  .subst e;rw [zaq] at hj;cases hj;cases h1
  .rcases h3 with h3|h3
   .exact hH.notR (old e hj) h1 h2 h3
   .exact e (hH.inj (old e hj) hi h1 hl h2 h3)
theorem Says.lend {o:Op} {u:Upd} {i:Nat} {x:XB} {y:XV} (hi:H i=some x) (hl:x.live=true) (hy:frzB (rsB H x.unrd)=some y) (hu:ziv u=true) (h:Says P (fun o=>rsA (frzd i y H) (E o)) (frzd i y H) o u):Says P E H o u:=by
 refine ⟨fun {κ a o'} ho hE hH hW hid K Q hK=>?_⟩;have hH1:=zj4 hH hi hl hy;have hle:=zdX κ i;have hR:∀b,(κ.frz i).R b->b<(κ.frz i).w.heap.size:=fun b hb=>by
  rcases hb with hb|hb
  .exact hW.ult b hb
  .exact (hH.blk hi).2.lt hl hb
 refine h.go (κ:=κ.frz i) ho (fun x=>zde hH1 ((hE x).mono hle)) hH1 (hW.next hle hR hW.fin) hid K Q fun v κ' e=>?_;simp only [ziv,Bool.and_eq_true,List.isEmpty_iff] at hu;obtain ⟨hu1,hu2,hu3⟩:=hu;have hno:∀b,¬Touch (κ.frz i) (frzd i y H) u.wr b:=fun b hb=>by rw [hu2] at hb;exact JR hb
 refine hK v ⟨κ'.ρ,κ'.N,κ.R,κ'.w⟩ ⟨fun id hN=>e.ext id hN,fun id hN=>e.new id hN,fun b hb=>hb,fun b hb=>.inl hb,e.fr.mono fun b _ hb=>absurd hb (hno b),ziZ hu3 e.val,by rw [hu1];exact HOk.nil _,?_,?_⟩
 .rw [hu1];intro id x b h1;cases h1
 .rw [hu2];intro id h1;cases h1
theorem zhl {Ct:Ctab} (ht:VI P Ct) {q:Nat} {o:Op}:∀{ids:List Nat} {E:Operand->XA} {H:Nat->Option XB} {K:Upd->Option R},aopL P Ct q o ids E H K=some m->m=some r->∃u,K u=some r/\ziv u=true/\Says P E H o u
 | [],E,H,K,h,hm=>by
  obtain ⟨u,h1,h2⟩:=zhn (zkg ht) h hm;cases hu:ziv u
  .rw [hu] at h1;cases h1
  .rw [hu] at h1;exact ⟨u,h1,hu,h2⟩
 | i::ids,E,H,K,h,hm=>by
  unfold aopL at h;split at h
  .rename_i x hx
   cases ho:x.live
   .rw [ho] at h;cases h
   .rw [ho,cond_true] at h
    split at h
    .rename_i y hy
     obtain ⟨u,h1,h2,h3⟩:=zhl ht h hm;exact ⟨u,h1,h2,h3.lend hx ho hy h2⟩
    .cases h
  .cases h
def zil:Op->Bool
 | .call { callee:=.value _,args:=_,argTypes:=_ }=>true
 | _=>false
def aopF (P:Program) (E:Operand->XA) (H:Nat->Option XB) (Ct:Ctab) (q:Nat) (o:Op) (K:Upd->Option R):Option (Option R) :=
 match aop P E H Ct q o K with
 | some m=>some m
 | none=>firstM (fun ids=>match (bif zil o then aopL P Ct q o ids E H K else none) with
  | some m=>some m
  | none=>aopZ P Ct q o ids E H K) (dem E H Ct o)
theorem zhk {Ct:Ctab} (ht:VI P Ct) {q:Nat} {o:Op} (h:aopF P E H Ct q o K=some m) (hm:m=some r):∃u,K u=some r/\Says P E H o u:=by
 unfold aopF at h;split at h
 .rename_i hh;cases h;exact zhn ht hh hm
 .obtain ⟨ids,h⟩:=zcV h
  split at h
  .rename_i hh
   cases h;cases hc:zil o
   case false=>rw [hc] at hh;cases hh
   rw [hc,cond_true] at hh;obtain ⟨u,h1,_,h2⟩:=zhl ht hh hm;exact ⟨u,h1,h2⟩
  .exact zhm ht h hm
end
end G
end Go.Proofs.YtbijabmjbgplbaaGreatDoor
namespace Go.Proofs.YtbijabmjbgplbaaGreatDoor
open Go.ChangeShapes Go.WideShapes Go.RowKit
namespace G
def zh5 (e:XEnv):Operand->XA
 | .tmp t=>get e t
 | .const v=>bif v.oneCell' then .one (cst v) else .one .any
 | .func f=>.one (.fn false f [])
 | .global _=>.one .any
def Cx.H (cx:Cx) (s:St):Nat->Option XB:=look (cx.full s).hp
def Cx.E (cx:Cx) (s:St) (x:Operand):XA:=rsA (cx.H s) (zh5 (cx.full s).env x)
section
variable {cx:Cx} {B:Base} {κ:Kn} {s:St} {a:Act}
theorem zdR (ok:Ok cx.nt B κ s a) (x:Operand):RepA κ (zh5 s.env x) (a.eval x):=by
 cases x with
 | tmp t=>exact ok.env t
 | const v =>
  show RepA κ (bif v.oneCell' then .one (cst v) else .one .any) v;cases h:v.oneCell'
  .exact trivial
  .exact zcQ h
 | func f=>exact ⟨[],rfl,trivial⟩
 | global g=>exact trivial
theorem zer (ok:Ok cx.nt B κ (cx.full s) a) (x:Operand):RepA κ (cx.E s x) (a.eval x):=zde ok.hp (zdR ok x)
theorem zfP (cx:Cx) (s:St) (d:Option Nat) (u:Upd):cx.full (s.upd d u)=(cx.full s).upd d u:=by
 unfold Cx.full St.upd St.put;simp only [List.append_assoc];cases d<;>rfl
theorem Ok.zfF {nt:Nat} {s s':St} (ok:Ok nt B κ s a) (hh:s'.hp=s.hp) (hn:s'.nx=s.nx) (he:∀t,RepA κ (get s'.env t) (a.tmps.getD t undef)):Ok nt B κ s' a:=by
 obtain ⟨e',h',n'⟩:=s';obtain ⟨e0,h0,n0⟩:=s;have hh:h'=h0:=hh;have hn:n'=n0:=hn;subst hh hn;exact ⟨ok.nt,ok.defers,he,ok.hp,ok.wd,ok.nx,ok.fr,ok.own,ok.rb,ok.rr,ok.ids,ok.low,ok.nw⟩
def Base.at (κ:Kn) (s:St):Base:=⟨κ.w,fun b=>∃id x,look s.hp id=some x/\x.own=true/\yV (κ.ρ id)=some b,κ.R,κ.N,κ.ρ,s.nx⟩
theorem Ok.start {nt:Nat} {s:St} (ok:Ok nt B κ s a):Ok nt (Base.at κ s) κ s a :=
 ⟨ok.nt,ok.defers,ok.env,ok.hp,ok.wd,ok.nx,Fr.refl _ _,fun {id x b} h1 h2 h3=>.inl ⟨id,x,h1,h2,h3⟩,fun b h=>.inl h,fun b h=>h,fun id h=>⟨h,rfl⟩,Nat.le_refl _,fun id h=>.inl h⟩
theorem zdE {nt:Nat} {s:St} (ok:Ok nt B κ s a):∀id,(Base.at κ s).N id->id<(Base.at κ s).n:=ok.nx
theorem Ok.base {nt:Nat} {s:St} (ok:Ok nt B κ s a) {κ':Kn} {s':St} {a':Act} (ok':Ok nt (Base.at κ s) κ' s' a'):Ok nt B κ' s' a':=by
 have hT:∀b,b<B.w.heap.size->(Base.at κ s).T b->B.T b:=fun b hb ⟨id,x,h1,h2,h3⟩=>(ok.own h1 h2 h3).resolve_right (by omega);have hs:B.w.heap.size<=κ.w.heap.size:=ok.fr.size;refine ⟨ok'.nt,ok'.defers,ok'.env,ok'.hp,ok'.wd,ok'.nx,ok.fr.trans ok'.fr hT,fun {id x b} h1 h2 h3=>?_,fun b hb=>?_,fun b hb=>ok'.rr b (ok.rr b hb),fun id hid=>?_,Nat.le_trans ok.low ok'.low,fun id hid=>?_⟩
 .rcases ok'.own h1 h2 h3 with ⟨i,z,k1,k2,k3⟩|h
  .exact ok.own k1 k2 k3
  .exact .inr (Nat.le_trans hs h)
 .rcases ok'.rb b hb with h|⟨i,z,k1,k2,k3⟩|h
  .exact ok.rb b h
  .exact .inr (ok.own k1 k2 k3)
  .exact .inr (.inr (Nat.le_trans hs h))
 .obtain ⟨h1,h2⟩:=ok.ids id hid
  obtain ⟨h3,h4⟩:=ok'.ids id h1;exact ⟨h3,h4.trans h2⟩
 .rcases ok'.nw id hid with h|h
  .exact ok.nw id h
  .exact .inr (Nat.le_trans ok.low h)
end
inductive NP where
 | slot (t:Nat) (e:TypeId) (c:EC)
 | cell (id j:Nat) (e:TypeId) (c:EC)
def zmJ:List (Nat×BS)->Nat->Option (TypeId×EC)
 | [],_=>none
 | (k,s)::r,i=>match s.unrd with
  | .row e c=>bif Nat.beq k i then some (e,c) else zmJ r i
  | _=>zmJ r i
def zkq (hs:List (Nat×BS)) (s:CS) (x:XV) (f:TypeId->EC->NP):List NP :=
 match s,x with
 | .leaf (.row i),.nil=>match zmJ hs i with
  | some (e,c)=>[f e c]
  | none=>[]
 | _,_=>[]
def nilC (hs:List (Nat×BS)) (id:Nat):Nat->List GS->List XV->List NP
 | j,.cell s::ss,x::xs=>zkq hs s x (.cell id j)++nilC hs id (j+1) ss xs
 | j,.part c::ss,xs=>nilC hs id (j+szC c) ss (xs.drop (szC c))
 | _,_,_=>[]
def nilH (n0:Nat) (H:Nat->Option XB) (b:Bi) (hs:List (Nat×BS)):List (Nat×BS)->List NP
 | []=>[]
 | (c,s)::r=>(match s.unrd,(actO n0 b c) with
  | .box l,some a=>match H a with
   | some (.box cs)=>nilC hs a 0 l cs
   | _=>[]
  | _,_=>[])++nilH n0 H b hs r
def nilE (hs:List (Nat×BS)) (G:Nat->XA):List (Nat×SH)->List NP
 | []=>[]
 | (t,.one s)::r=>(match G t with
  | .one x=>zkq hs s x (.slot t)
  | _=>[])++nilE hs G r
 | _::r=>nilE hs G r
def nilS (cx:Cx):List NP->St->Option St
 | [],s=>some s
 | .slot t e c::r,s=>match get (cx.full s).env t with
  | .one .nil=>nilS cx r ⟨(t,.one (.own s.nx))::s.env,(s.nx,some (.row e c []))::s.hp,s.nx+1⟩
  | _=>none
 | .cell id j e c::r,s=>match cx.H s id with
  | some (.box cs)=>match cs[j]? with
   | some .nil=>nilS cx r ⟨s.env,(id,some (.box (cs.set j (.own s.nx))))::(s.nx,some (.row e c []))::s.hp,s.nx+1⟩
   | _=>none
  | _=>none
def npC (H:Nat->Option XB) (xs:List XA) (ct:Ctr):List NP :=
 nilH 0 H (hbnd 0 H ct.k.h (SHs.bnd 0 (ct.k.e.map (·.2)) xs [])) ct.k.h ct.k.h
def npA (E:Operand->XA) (hs:List (Nat×BS)):List (Nat×SH)->List (Option Operand)->List NP
 | (_,.one s)::r,some (.tmp t)::os=>(match E (.tmp t) with
  | .one x=>zkq hs s x (.slot t)
  | _=>[])++npA E hs r os
 | _::r,_::os=>npA E hs r os
 | _,_=>[]
def znq (mt:Bool) (args:List Operand) (caps:List XV):List (Option Operand):=bif mt then caps.map (fun _=>none)++args.map some else args.map some++caps.map (fun _=>none)
def npL:List NP->Option (List NP)
 | []=>none
 | l=>some l
def npO (E:Operand->XA) (H:Nat->Option XB) (Ct:Ctab) (o:Op):List (List NP) :=
 match o with
 | .call { callee:=.value x,args:=args,argTypes:=tys }=>match E x with
  | .one (.fn mt f caps)=>(Ct.c f).filterMap fun ct=>npL (npA E ct.k.h ct.k.e (znq mt args.toList caps)++npC H (callArgs E mt args.toList caps) ct)
  | _=>[]
 | _=>[]
section
variable {cx:Cx} {B:Base} {κ:Kn} {s:St} {a:Act}
theorem zln {e:TypeId} {c:EC} (ok:Ok cx.nt B κ (cx.full s) a):Ok cx.nt B (κ.bind s.nx (.slice none 0 0) κ.w) (cx.full ⟨s.env,(s.nx,some (.row e c []))::s.hp,s.nx+1⟩) a:=by
 have hq:¬κ.N s.nx:=fun h=>Nat.lt_irrefl _ (ok.nx _ h);have e1:Eff κ (κ.bind s.nx (.slice none 0 0) κ.w) (look (cx.full s).hp) ⟨.one .any,(s.nx,some (.row e c []))::([]:List Nat).map (fun i=>(i,none)),[s.nx],[]⟩ undef :=
  XJ (x:=.row e c []) (wr:=[]) ok.hp ok.wd hq (Fr.refl _ _) ⟨[],by rw [jH];exact ⟨by simp,.inl ⟨rfl,none,rfl⟩⟩,.nil⟩ trivial fun _ b hb=>by cases hb
 have h1:=ok.upd (d:=none) e1 rfl fun id hid=>by rw [List.mem_singleton.1 hid];exact ok.low
 have h2:nxA s.nx [s.nx]=s.nx+1:=by
  show (bif Nat.blt s.nx s.nx then s.nx else s.nx+1)=s.nx+1;have:Nat.blt s.nx s.nx=false:=by cases hb:Nat.blt s.nx s.nx;rfl;(rw [Nat.blt_eq] at hb;omega)
  rw [this];rfl
 have h3:(cx.full s).upd none ⟨.one .any,(s.nx,some (.row e c []))::([]:List Nat).map (fun i=>(i,none)),[s.nx],[]⟩=cx.full ⟨s.env,(s.nx,some (.row e c []))::s.hp,s.nx+1⟩:=by
  show (⟨_,_,nxA s.nx [s.nx]⟩:St)=_;rw [h2];rfl
 rw [h3] at h1;exact h1
theorem zbT:∀{ps:List NP} {s s':St} {κ:Kn},nilS cx ps s=some s'->Ok cx.nt B κ (cx.full s) a->∃κ',κ'.w=κ.w/\Ok cx.nt B κ' (cx.full s') a
 | [],s,s',κ,h,ok=>by cases h;exact ⟨κ,rfl,ok⟩
 | .slot t e c::ps,s,s',κ,h,ok=>by
  unfold nilS at h;split at h
  .rename_i hx
   have h1:=zln (e:=e) (c:=c) ok;have h2:Ok cx.nt B (κ.bind s.nx (.slice none 0 0) κ.w) (cx.full ⟨(t,.one (.own s.nx))::s.env,(s.nx,some (.row e c []))::s.hp,s.nx+1⟩) a:=by
    refine h1.zfF rfl rfl fun t'=>?_;show RepA _ (get ((t,.one (.own s.nx))::(s.env++cx.ce)) t') _;rw [Vx]
    by_cases ht:t=t'
    .rw [if_pos ht,<-ht]
     have h3:=ok.env t;rw [hx] at h3;have h4:a.tmps.getD t undef=.slice none 0 0:=WU (p:=.nil) rfl h3;rw [h4];exact ⟨.inr rfl,jH.symm,rfl⟩
    .rw [if_neg ht];exact h1.env t'
   obtain ⟨κ',h3,h4⟩:=zbT h h2;exact ⟨κ',h3,h4⟩
  .cases h
 | .cell id j e c::ps,s,s',κ,h,ok=>by
  unfold nilS at h;split at h
  .rename_i cs hb
   split at h
   .rename_i hj
    have h1:=zln (e:=e) (c:=c) ok;generalize hκ:κ.bind s.nx (.slice none 0 0) κ.w=κ1 at h1;have hne:id≠s.nx:=fun e=>by
     have:=ok.nx id (ok.hp.blk hb).1;have h2:(cx.full s).nx=s.nx:=rfl;omega
    have hb1:look (cx.full ⟨s.env,(s.nx,some (.row e c []))::s.hp,s.nx+1⟩).hp id=some (.box cs):=by
     show look ((s.nx,some (.row e c []))::(s.hp++cx.ch)) id=_;rw [kJ,if_neg (Ne.symm hne)];exact hb
    obtain ⟨hN,b,vs,ty,k1,k2,k3⟩:=h1.hp.blk hb1;obtain ⟨u,k4,k5⟩:=k3.get hj;have k6:u=.slice none 0 0:=WU (p:=.nil) rfl k5;have hbr:uO (κ1.to κ1.w) id (.box (cs.set j (.own s.nx))):=by
     refine ⟨b,vs,ty,k1,k2,All2.of (by rw [List.length_set];exact k3.length) fun i x v hx hv=>?_⟩
     by_cases hij:j=i
     .subst hij
      rw [List.getElem?_set_self (List.getElem?_eq_some_iff.1 hj).1] at hx;cases hx;rw [k4] at hv;cases hv;rw [k6,<-hκ];exact ⟨.inr rfl,jH.symm,rfl⟩
     .rw [List.getElem?_set_ne hij] at hx
      obtain ⟨v',k7,k8⟩:=k3.get hx;rw [k7] at hv;cases hv;exact k8
    have e2:=zaM (w':=κ1.w) (v:=.one .any) (val:=undef) h1.hp hb1 rfl (Fr.refl _ _) hbr rfl trivial;have h2:=h1.upd (d:=none) e2 rfl nofun;obtain ⟨κ',h3,h4⟩:=zbT (κ:=κ1.to κ1.w) h h2;exact ⟨κ',h3.trans (by rw [<-hκ];rfl),h4⟩
   .cases h
  .cases h
end
end G
end Go.Proofs.YtbijabmjbgplbaaGreatDoor
