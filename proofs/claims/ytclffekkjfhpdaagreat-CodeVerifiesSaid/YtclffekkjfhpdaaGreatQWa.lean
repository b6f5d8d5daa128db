import Derived.Test.YtclffekkjfhpdaaGreatQAbsSw
import Derived.Test.YtclffekkjfhpdaaGreatQMo
import Derived.Test.YtclffekkjfhpdaaGreatQTy
import Derived.Test.YtclffekkjfhpdaaGreatQAbsS
import Derived.Test.YtclffekkjfhpdaaGreatQCodeB
import Derived.Test.YtclffekkjfhpdaaGreatQKit
import Derived.Deep.RegionLaw
import Derived.BigRegion
import Derived.Laws.CopyOwn
import Derived.Deep.OwnRows
namespace Go.Proofs.YtclffekkjfhpdaaGreat
open Go.ChangeShapes Go.WideShapes Go.RowKit
open Abs
set_option linter.unusedVariables false
set_option linter.unusedSimpArgs false
set_option maxRecDepth 10000
namespace Md
set_option maxHeartbeats 2000000 in
theorem zhb {k:Nat} {a0:UInt64} {a1:UInt64} {r:UInt64×UInt64} (h:zfB k a0 a1=some r):FnC Tryz.prog 125 [.one (.val (.int .u64 (a0.toNat:Int))),.one (.val (.int .u64 (a1.toNat:Int)))] [] (Det (.tup [.one (.val (.int .u64 (r.1.toNat:Int))),.one (.val (.int .u64 (r.2.toNat:Int)))]) []):=by
 unfold zfB at h
 refine fn_intro' 51 Tryz.func125 rfl rfl rfl (aw_seq (aw_region ?_))
 iterate 2 refine s_sa ?_
 refine aops_nil (aw_seq (aw_region (s_mv ?_)))
 refine zaa rfl (ev_bits rfl rfl rfl rfl (and_u64 a0 (4294967295:UInt64))) (s_sa ?_)
 refine aops_nil (aw_seq (aw_region (s_mv ?_)))
 refine zaa rfl (ev_shr rfl rfl rfl (by decide) (shr_u64 a0 (nat_toNat 32))) (s_sa ?_)
 refine aops_nil (aw_seq (aw_region (s_mv ?_)))
 refine zaa rfl (ev_bits rfl rfl rfl rfl (and_u64 a1 (4294967295:UInt64))) (s_sa ?_)
 refine aops_nil (aw_seq (aw_region (s_mv ?_)))
 refine zaa rfl (ev_shr rfl rfl rfl (by decide) (shr_u64 a1 (nat_toNat 32))) (s_sa (aops_nil (aw_seq (aw_region ?_))))
 iterate 2 refine s_mv ?_
 refine zaa rfl (ev_mul rfl rfl rfl (mul_u64 (a0 &&& (4294967295:UInt64)) (a1 &&& (4294967295:UInt64)))) (s_sa (aops_nil (aw_seq (aw_region ?_))))
 iterate 2 refine s_mv ?_
 refine zaa rfl (ev_mul rfl rfl rfl (mul_u64 (shr64 a0 32) (a1 &&& (4294967295:UInt64)))) (s_mv ?_)
 refine zaa rfl (ev_shr rfl rfl rfl (by decide) (shr_u64 ((a0 &&& (4294967295:UInt64))*(a1 &&& (4294967295:UInt64))) (nat_toNat 32))) ?_
 refine zaa rfl (ev_add rfl rfl rfl (add_u64 ((shr64 a0 32)*(a1 &&& (4294967295:UInt64))) (shr64 ((a0 &&& (4294967295:UInt64))*(a1 &&& (4294967295:UInt64))) 32))) (s_sa ?_)
 refine aops_nil (aw_seq (aw_region (s_mv ?_)))
 refine zaa rfl (ev_bits rfl rfl rfl rfl (and_u64 (((shr64 a0 32)*(a1 &&& (4294967295:UInt64)))+(shr64 ((a0 &&& (4294967295:UInt64))*(a1 &&& (4294967295:UInt64))) 32)) (4294967295:UInt64))) (s_sa ?_)
 refine aops_nil (aw_seq (aw_region (s_mv ?_)))
 refine zaa rfl (ev_shr rfl rfl rfl (by decide) (shr_u64 (((shr64 a0 32)*(a1 &&& (4294967295:UInt64)))+(shr64 ((a0 &&& (4294967295:UInt64))*(a1 &&& (4294967295:UInt64))) 32)) (nat_toNat 32))) (s_sa (aops_nil (aw_seq (aw_region ?_))))
 iterate 3 refine s_mv ?_
 refine zaa rfl (ev_mul rfl rfl rfl (mul_u64 (a0 &&& (4294967295:UInt64)) (shr64 a1 32))) ?_
 refine zaa rfl (ev_add rfl rfl rfl (add_u64 ((((shr64 a0 32)*(a1 &&& (4294967295:UInt64)))+(shr64 ((a0 &&& (4294967295:UInt64))*(a1 &&& (4294967295:UInt64))) 32)) &&& (4294967295:UInt64)) ((a0 &&& (4294967295:UInt64))*(shr64 a1 32)))) (s_sa (aops_nil (aw_seq (aw_region ?_))))
 iterate 2 refine s_mv ?_
 refine zaa rfl (ev_mul rfl rfl rfl (mul_u64 (shr64 a0 32) (shr64 a1 32))) (s_mv ?_)
 refine zaa rfl (ev_add rfl rfl rfl (add_u64 ((shr64 a0 32)*(shr64 a1 32)) (shr64 (((shr64 a0 32)*(a1 &&& (4294967295:UInt64)))+(shr64 ((a0 &&& (4294967295:UInt64))*(a1 &&& (4294967295:UInt64))) 32)) 32))) (s_mv ?_)
 refine zaa rfl (ev_shr rfl rfl rfl (by decide) (shr_u64 (((((shr64 a0 32)*(a1 &&& (4294967295:UInt64)))+(shr64 ((a0 &&& (4294967295:UInt64))*(a1 &&& (4294967295:UInt64))) 32)) &&& (4294967295:UInt64))+((a0 &&& (4294967295:UInt64))*(shr64 a1 32))) (nat_toNat 32))) ?_
 refine zaa rfl (ev_add rfl rfl rfl (add_u64 (((shr64 a0 32)*(shr64 a1 32))+(shr64 (((shr64 a0 32)*(a1 &&& (4294967295:UInt64)))+(shr64 ((a0 &&& (4294967295:UInt64))*(a1 &&& (4294967295:UInt64))) 32)) 32)) (shr64 (((((shr64 a0 32)*(a1 &&& (4294967295:UInt64)))+(shr64 ((a0 &&& (4294967295:UInt64))*(a1 &&& (4294967295:UInt64))) 32)) &&& (4294967295:UInt64))+((a0 &&& (4294967295:UInt64))*(shr64 a1 32))) 32))) (s_sa ?_)
 refine aops_nil (aw_seq (aw_region ?_))
 iterate 2 refine s_mv ?_
 refine zaa rfl (ev_mul rfl rfl rfl (mul_u64 a0 a1)) (s_sa (aops_nil ?_))
 cases sj h
 exact aw_ret ⟨rfl,rv (rn (.cons o1 (.cons o1 .nil)))⟩
set_option maxHeartbeats 2000000 in
theorem zhq {k:Nat} {a0:UInt64} {a1:UInt64} {r:UInt64×UInt64} (h:zfu k a0 a1=some r):FnC Tryz.prog 123 [.one (.val (.int .u64 (a0.toNat:Int))),.one (.val (.int .u64 (a1.toNat:Int)))] [] (Det (.tup [.one (.val (.int .u64 (r.1.toNat:Int))),.one (.val (.int .u64 (r.2.toNat:Int)))]) []):=by
 unfold zfu at h
 refine fn_intro' 30 Tryz.func123 rfl rfl rfl (aw_seq (aw_region ?_))
 iterate 2 refine s_sa ?_
 refine aops_nil (aw_seq (aw_no rfl (rfl) (aw_skip (aw_seq (aw_region ?_)))))
 iterate 2 refine s_mv ?_
 obtain ⟨x1,hx1,h⟩:=bind_s h
 refine zaa rfl (ev_call_v (zhb hx1) rfl [] ai rfl rfl rfl (.inl rfl) rfl) (s_mt ?_)
 iterate 2 refine s_ex ?_
 iterate 2 refine s_sa ?_
 refine aops_nil (aw_seq (aw_region ?_))
 iterate 2 refine s_mv ?_
 iterate 2 refine s_sa ?_
 refine aops_nil ?_
 cases sj h
 exact aw_ret ⟨rfl,rv (rn (.cons o1 (.cons o1 .nil)))⟩
end Md
end Go.Proofs.YtclffekkjfhpdaaGreat
namespace Go.Proofs.YtclffekkjfhpdaaGreat
open Go.ChangeShapes Go.WideShapes Go.RowKit
open Kit
open Abs hiding get
set_option linter.unusedVariables false
set_option linter.unusedSimpArgs false
namespace Rep
theorem ziN {P:Program} {f:FuncId} {us:List Value} {r:AV} (hfn:FnC P f (us.map fun u=>.one (.val u)) [] (Det r [])) (hone:∀u∈us,u.oneCell'=true) (w:World) (ht:Tabs [] (fun _=>undef) w:=by exact tabs_none):Calls P f us.toArray w fun e w'=>∃v,e=.returned v∧InV w' r v∧Below w.heap.size w w':=by
 have hargs:All2 (InV w) (us.map fun u=>.one (.val u)) us.toArray.toList:=by
  simp only [List.toList_toArray]
  clear hfn
  induction us with
  | nil=>exact .nil
  | cons u us ih=>exact .cons (in_v (hone u (by simp))) (ih fun x hx=>hone x (by simp [hx]))
 refine (hfn NoA NoA w us.toArray (fun _=>undef) hargs ⟨fun id b hb=>(by cases hb),fun id id' x y b h1=>(by cases h1),fun b hb=>(no_mine hb).elim,fun b hb=>False.elim hb,ht⟩ fun b hb=>(no_mine hb).elim).mono ?_
 rintro e' w' ⟨r',h',hv',v,rfl,⟨rfl,rfl⟩,hr,_,hf,_,_⟩
 exact ⟨v,rfl,hr.keep (fun id _=>⟨fun ⟨_,_,_,_,h⟩=>(by cases h),fun ⟨_,h⟩=>(by cases h),fun ⟨_,h⟩=>(by cases h),fun ⟨_,_,h⟩=>(by cases h)⟩) (Fr.refl (fun _=>False) w') (fun _ e=>e.elim) fun b _ h=>h.elim (fun h=>h.elim) fun h=>(no_mine h).elim,hf.below⟩
theorem mul_small (n:Nat) (hn:n≤16) (w:World):Calls Tryz.prog 123 #[.int .u64 1,.int .u64 n] w fun e w'=>e=.returned (.tuple #[.int .u64 0,.int .u64 n])∧Below w.heap.size w w':=by
 have hm:Md.zfu 0 1 (UInt64.ofNat n)=some (0,UInt64.ofNat n):=by
  have:∀m:Fin 17,Md.zfu 0 1 (UInt64.ofNat m.val)=some (0,UInt64.ofNat m.val):=by decide +kernel
  exact this ⟨n,by omega⟩
 have h:=ziN (us:=[.int .u64 1,.int .u64 n]) (by
  have h1:=Md.zhq hm
  have e1:(((UInt64.ofNat n).toNat:Nat):Int)=(n:Int):=by
   rw [UInt64.toNat_ofNat']
   congr 1
   omega
  have e2:(((1:UInt64).toNat:Nat):Int)=1:=rfl
  rw [e1,e2] at h1
  exact h1) (by simp [Value.oneCell']) w
 refine h.mono ?_
 rintro e w' ⟨v,rfl,hr,hb⟩
 refine ⟨?_,hb⟩
 obtain ⟨vs,rfl,h2⟩:=hr
 cases h2 with
 | cons a t =>
  cases t with
  | cons c t2 =>
   cases t2
   have e1:=rep_val (h:=[]) (hv:=fun _=>undef) a
   have e2:=rep_val (h:=[]) (hv:=fun _=>undef) c
   rw [e1,e2]
   rfl
theorem infoI:(Tryz.prog.info? 3).map (fun i=>(i.zero,i.size,i.bytes))=some (some (.int .i64 0),1,8):=by kernel_rfl
theorem sizeI:(Tryz.prog.info? 3).map (·.size)=some 1:=by kernel_rfl
set_option maxHeartbeats 1000000 in
set_option maxRecDepth 10000 in
theorem core (b:Nat) (kk:Int) (n:Nat) (hn:n≤16) (w:World) (hb:b<w.heap.size) (hc:w.cell? ⟨b,0,none⟩=some (.int .i64 kk)) :
  Calls Tryz.prog 118 #[.slice (some ⟨b,0,none⟩) 1 1,.int .i64 n] w fun e w'=>∃v,e=.returned v∧w'.ownsRow w.heap.size 3 1 v n (List.replicate n (.int .i64 kk))∧Below w.heap.size w w':=by
 have e0:IntKind.u64.wrap (n:Int)=(n:Int):=wrap_u64 (by omega) (by omega)
 have e1:IntKind.i64.wrap (n:Int)=(n:Int):=Abs.wrap_i64 (by omega) (by omega)
 have hmk:=run_make_row' (P:=Tryz.prog) 30 3 (.int .i64 0) 8 Tryz.underlying30 infoI rfl .i64 .i64 n (by omega) (by omega)
 have hml:(madeCells #[Value.int .i64 0] n).toList.length=n:=by simp [madeCells]
 go_enter Tryz.func118,Tryz.ntmps118
 go_wp2_with fail
 refine (mul_small n hn w).mono ?_
 rintro e w1 ⟨rfl,hb1⟩
 have hc1:=keep_cell hb1 hc
 have hz1:=hb1.size
 have hcopy:=run_copy_row (P:=Tryz.prog) (w1.alloc (.cells (madeCells #[.int .i64 0] n) 3)) 30 30 3 3 w1.heap.size 0 n n ⟨b,0,none⟩ 1 1 (madeCells #[.int .i64 0] n) 3 (List.replicate (min 1 n) (.int .i64 kk)) Tryz.underlying30 sizeI (heap_alloc_new _ _) (by simp) (fun j v hv=>by
  have hj:=(List.getElem?_eq_some_iff.1 hv).1
  have hj0:j=0:=by simp at hj;omega
  subst hj0
  rw [List.getElem?_replicate] at hv
  split at hv
  ·injection hv with hv
   subst hv
   exact (World.cell?_of_block (Below.heap_alloc _ _ _ (by simp [Addr.add];omega))).trans hc1
  ·cases hv) (by simp [madeCells];omega) (fun v hv=>by rw [List.eq_of_mem_replicate hv];rfl)
 generalize hcur:((madeCells #[Value.int .i64 0] n).toList.take 0++List.replicate (min 1 n) (Value.int .i64 kk)++(madeCells #[Value.int .i64 0] n).toList.drop (0+(List.replicate (min 1 n) (Value.int .i64 kk)).length))=cur0 at hcopy
 have hcl:cur0.length=n:=by rw [←hcur];simp [madeCells];omega
 have hct:cur0.take (min 1 n)=List.replicate (min 1 n) (.int .i64 kk):=by rw [←hcur];simp
 have hg0:((w1.alloc (.cells (madeCells #[.int .i64 0] n) 3)).setRow w1.heap.size cur0.toArray).heap[w1.heap.size]?=some (.cells cur0.toArray 3 (0,0)):=setRow_heap _ _ _ _ _ _ (heap_alloc_new _ _)
 have hb0:Below w.heap.size w ((w1.alloc (.cells (madeCells #[.int .i64 0] n) 3)).setRow w1.heap.size cur0.toArray):=below_setRow (Below.alloc hb1 hz1 _) hz1 _
 clear hcur
 have G:=Lib.hid hg0
 clear hg0
 go_wp2_with fail
 go_loopw [8] (fun v wr=>∃(q:Nat) (cur:List Value),q≤n∧(0<n→0<q)∧v=.int .i64 q∧cur.length=n∧cur.take q=List.replicate q (.int .i64 kk)∧Hid (wr.heap[w1.heap.size]?=some (.cells cur.toArray 3 (0,0)))∧Below w.heap.size w wr) (fun v _=>n - (intOf v).toNat)
 case atStart=>exact ⟨min 1 n,cur0,by omega,by omega,by simp [goInt],hcl,hct,G,hb0⟩
 case round =>
  obtain ⟨q,cur,hq,hq0,rfl,hl,ht,hg,hbr⟩:=hrel
  clear G hb0 hcopy hmk
  by_cases hlt:q<n
  ·have hsrc:∀(w4:World),w4.heap[w1.heap.size]?=some (.cells cur.toArray 3 (0,0))→∀j v,(List.replicate (min q (n - q)) (Value.int .i64 kk))[j]?=some v→w4.cell? ((⟨w1.heap.size,0,none⟩:Addr).add j)=some v:=fun w4 h4 j v hv=>by
    have hj:=(List.getElem?_eq_some_iff.1 hv).1
    simp at hj
    rw [List.getElem?_replicate,if_pos (by omega)] at hv
    have h5:cur[j]?=some (.int .i64 kk):=by
     have h6:(cur.take q)[j]?=some (.int .i64 kk):=by rw [ht,List.getElem?_replicate,if_pos (by omega)]
     rw [List.getElem?_take] at h6
     split at h6
     ·exact h6
     ·cases h6
    injection hv with hv
    subst hv
    have h7:(⟨w1.heap.size,0,none⟩:Addr).add j=⟨w1.heap.size,j,none⟩:=by unfold Addr.add;split<;>simp_all
    rw [h7,Lib.cell_of_heap h4]
    simpa using h5
   have hnq:¬n=q:=by omega
   have hcp:=run_copy_row (P:=Tryz.prog) wr.drew 30 30 3 3 w1.heap.size q (n - q) (n - q) ⟨w1.heap.size,0,none⟩ q n cur.toArray 3 (List.replicate (min q (n - q)) (.int .i64 kk)) Tryz.underlying30 sizeI hg.out (by simp [Nat.min_def]) (hsrc _ hg.out) (by simp [hl];omega) (fun v hv=>by rw [List.eq_of_mem_replicate hv];rfl)
   generalize hcu:(cur.toArray.toList.take q++List.replicate (min q (n - q)) (Value.int .i64 kk)++cur.toArray.toList.drop (q+(List.replicate (min q (n - q)) (Value.int .i64 kk)).length))=cur' at hcp
   have hcl':cur'.length=n:=by rw [←hcu];simp [hl];omega
   have hct':cur'.take (q+min q (n - q))=List.replicate (q+min q (n - q)) (.int .i64 kk):=by
    rw [←hcu,List.take_left' (by simp [hl];omega),List.toList_toArray,ht,List.replicate_append_replicate]
   have hg':(wr.drew.setRow w1.heap.size cur'.toArray).heap[w1.heap.size]?=some (.cells cur'.toArray 3 (0,0)):=setRow_heap _ _ _ _ _ _ hg.out
   have hb':Below w.heap.size w (wr.drew.setRow w1.heap.size cur'.toArray):=below_setRow (Below.drew hbr) hz1 _
   clear hcu
   have eq1:IntKind.i64.wrap ((q:Int)+((min q (n - q):Nat):Int))=((q+min q (n - q):Nat):Int):=(Abs.wrap_i64 (by omega) (by omega)).trans (by omega)
   go_wp2_with fail
   go_region_law (fail)
   simp [Act.put]
   go_wp2_with fail
   go_roundw
   case rel=>exact ⟨q+min q (n - q),cur',by omega,by omega,by simp [goInt,eq1],hcl',hct',Lib.hid hg',hb'⟩
   case measure=>simp [intOf,goInt,eq1];omega
  ·obtain rfl:q=n:=by omega
   go_wp2_with fail
   go_ret
   refine ⟨_,rfl,⟨by simp,.inr ⟨w1.heap.size,q,cur.toArray,rfl,hz1,hg.out,Nat.le_refl _,by unfold maxLen;omega,by simp [hl],?_⟩⟩,hbr⟩
   simpa using ht
set_option maxHeartbeats 1000000 in
theorem rep (kk:Int) (n:Nat) (hn:n≤16) (w:World) :
  Calls Tryz.prog 104 #[.int .i64 kk,.int .i64 n] w fun e w'=>∃v,e=.returned v∧w'.ownsRow w.heap.size 3 1 v n (List.replicate n (.int .i64 kk))∧Below w.heap.size w w':=by
 go_enter Tryz.func104,Tryz.ntmps104
 go_wp2_with fail
 refine (core w.heap.size kk n hn _ (by simp) (by rw [Lib.cell_of_heap (heap_alloc_new _ _)];rfl)).mono ?_
 rintro e w1 ⟨v,rfl,ho,hb⟩
 have hb1:Below w.heap.size w w1:=(Below.alloc (Below.refl _ _) (Nat.le_refl _) _).trans (hb.mono (by simp))
 have ho1:=Kit.own_base ho (base':=w.heap.size) (by simp)
 clear ho hb
 go_wp2_with fail
 go_ret
 exact ⟨_,rfl,ho1,hb1⟩
end Rep
namespace Md
theorem zfL {k:Nat} {a0:Int} {a1:Int} {r:(List Int)} (h:zdE k a0 a1=some r):FnC Tryz.prog 104 [vI a0,vI a1] [] (Det (.one (CV.ls c_Int r)) []):=fun U T w vs hv hargs hm hT=>by
 obtain ⟨⟨h1,h2⟩,h3⟩:=ifp_s h
 cases Option.some.inj h3
 have hvs:vs=#[.int .i64 a0,.int .i64 (a1.toNat:Int)]:=by
  rw [show (a1.toNat:Int)=a1 by omega]
  apply Array.ext'
  generalize vs.toList=l at hargs
  cases hargs with
  | cons x t =>
   cases t with
   | cons y t2 =>
    cases t2
    rw [rep_val (h:=[]) (hv:=hv) x,rep_val (h:=[]) (hv:=hv) y]
 subst hvs
 have nm:∀(hv:Nat→Go.Value) b,mine [] hv b→False:=fun hv b ⟨_,_,h1,_⟩=>by cases h1
 refine (Rep.rep a0 a1.toNat (by omega) w).mono ?_
 rintro e w' ⟨v,rfl,ho,hb⟩
 have hl:(List.replicate a1.toNat a0).length=a1.toNat:=by simp
 refine ⟨_,[],hv,v,rfl,⟨rfl,rfl⟩,?_,hm.keep (Fr.of_below hb),(Fr.of_below hb).mono fun _ _ e=>e.elim,fun b hb=>(nm _ b hb).elim,fun id cs hid=>by cases hid⟩
 show RepC _ w' (.slc _ _) v
 rw [hl]
 refine zgX ho (fun b hb hU=>hU.elim (fun h=>by have:=hm.ult b h;omega) fun h=>nm _ b h) (fun i _=>rfl) fun i j c hi hj=>?_
 have hg:(List.replicate a1.toNat a0).getD i default=a0:=by simp [List.getD,hi]
 unfold lsEl at hj
 rw [hg] at hj
 have hj0:j=0:=by
  have:=(List.getElem?_eq_some_iff.1 hj).1
  simpa [c_Int] using this
 subst hj0
 refine ⟨.int .i64 a0,by simp [hi],?_⟩
 have hc:c=.val (.int .i64 a0):=by
  have:some (CV.val (.int .i64 a0))=some c:=hj
  injection this with this
  exact this.symm
 rw [hc]
 exact RepC.val _ rfl
end Md
end Go.Proofs.YtclffekkjfhpdaaGreat

