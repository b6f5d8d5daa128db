import Derived.Test.YtclffekkjfhpdaaGreatQAbsSw
import Derived.Test.YtclffekkjfhpdaaGreatQMo
import Derived.Test.YtclffekkjfhpdaaGreatQTy
import Derived.Test.YtclffekkjfhpdaaGreatQAbsX
import Derived.Test.YtclffekkjfhpdaaGreatQCodeD
namespace Go.Proofs.YtclffekkjfhpdaaGreat
open Go.ChangeShapes Go.WideShapes Go.RowKit
open Abs
set_option linter.unusedVariables false
set_option linter.unusedSimpArgs false
set_option maxRecDepth 10000
namespace Md
def zan (x:Bytecodereader):List CV:=[CV.ls byC x.b,cB x.failed]
set_option maxHeartbeats 2000000 in
theorem zgJ {k:Nat} {a0:List UInt8} {r:UInt64×Int×Int} (h:wire_Uint k a0=some r):FnC Tryz.prog 55 [.one (CV.ls byC a0)] [] (Det (.tup [.one (.val (.int .u64 (r.1.toNat:Int))),vI r.2.1,vI r.2.2]) []):=by
 unfold wire_Uint at h
 refine fn_intro' 42 Tryz.func55 rfl rfl rfl (aw_seq (aw_region ?_))
 iterate 3 refine s_sa ?_
 refine aops_nil (aw_seq (aw_seq (aw_region (s_mv ?_))))
 refine s_ln ?_
 refine s_mv (aops_nil (aw_block ?_))
 obtain ⟨o1,ho1,h⟩:=bind_s h
 refine aw_loop_x (ι:={p:Nat×UInt64×Nat // zep k a0 p.1 p.2.1 p.2.2=some o1}) (fun p=>(⟨42,[],[(2,.one (.val (.int .u64 (p.1.2.1.toNat:Int)))),(7,.one (CV.ls byC a0)),(8,vI ((a0.length:Nat):Int)),(9,vI ((p.1.2.2:Nat):Int))],[]⟩:ASt)) (fun p=>p.1.1) ⟨(k,(0:UInt64),0),ho1⟩ wk 0 (ε:=Unit) (fun x=>(⟨42,[],[],[]⟩:ASt)) (fun x=>Sum.inl x=o1) (fun _ _ w h=>aw_weak w h) ?_ ?_
 ·intro x1_0 hI1
  subst hI1
  replace h:=onS_l h
  refine aw_seq (aw_region ?_)
  iterate 3 refine s_sa ?_
  refine aops_nil ?_
  cases sj h
  exact aw_ret ⟨rfl,rv (rn (.cons o1 (.cons o1 (.cons o1 .nil))))⟩
 intro p1
 obtain ⟨⟨n1,s1_0,s1_1⟩,l1⟩:=p1
 replace l1:zep k a0 n1 s1_0 s1_1=some o1:=l1
 rcases n1 with _|n1
 ·exact absurd (show none=some o1 from l1) nofun
 rw [zep] at l1
 refine aw_seq (aw_region (s_cm (aops_nil (aw_seq ?_))))
 refine aw_if l1 (fun c2 l1=>?_) (fun c2 l1=>?_)
 ·refine aw_skip (aw_seq (aw_block (aw_seq (aw_region (s_mv ?_)))))
  obtain ⟨g3,l1⟩:=ifp_s l1
  refine zaa rfl (zaf rfl rfl rfl g3 rfl rfl) (zaa rfl (zas rfl rfl rfl) ?_)
  iterate 2 refine s_sa ?_
  refine aops_nil (aw_seq (aw_seq (aw_region (s_mv ?_))))
  refine s_cm ?_
  refine s_mv ?_
  refine bo 3 ((((s1_1:Nat):Int)==9)&&(decide ((((a0.getD s1_1 default)).toNat:Int)>1))) ?_
  refine s_mv ?_
  refine aops_mid 7 (⟨42,[],[(2,.one (.val (.int .u64 (s1_0.toNat:Int)))),(5,vI ((s1_1:Nat):Int)),(6,.one (.val (.int .u8 (((a0.getD s1_1 default)).toNat:Int)))),(7,.one (CV.ls byC a0)),(8,vI ((a0.length:Nat):Int)),(9,vI ((s1_1:Nat):Int)),(27,vB (((((s1_1:Nat):Int)==9)&&(decide ((((a0.getD s1_1 default)).toNat:Int)>1)))||((decide (((s1_1:Nat):Int)>0))&&((((a0.getD s1_1 default)).toNat:Int)==0))))],[]⟩:ASt) ?_ ?_
  ·rcases bool_or (((((s1_1:Nat):Int)==9)&&(decide ((((a0.getD s1_1 default)).toNat:Int)>1)))) with q5|q5
   ·skip
    iterate 3 refine np q5 ?_
    refine aops_und rfl rfl rfl rfl rfl (aops_und rfl rfl rfl rfl rfl (np q5 ?_))
    refine s_py q5 (aops_nil ?_)
    exact wq q5
   refine y_mv q5 ?_
   refine y_cm q5 ?_
   refine y_mv q5 ?_
   refine aops_mid 3 (⟨42,[],[(2,.one (.val (.int .u64 (s1_0.toNat:Int)))),(5,vI ((s1_1:Nat):Int)),(6,.one (.val (.int .u8 (((a0.getD s1_1 default)).toNat:Int)))),(7,.one (CV.ls byC a0)),(8,vI ((a0.length:Nat):Int)),(9,vI ((s1_1:Nat):Int)),(20,vB ((((s1_1:Nat):Int)==9)&&(decide ((((a0.getD s1_1 default)).toNat:Int)>1)))),(26,vB ((decide (((s1_1:Nat):Int)>0))&&((((a0.getD s1_1 default)).toNat:Int)==0)))],[]⟩:ASt) ?_ ?_
   ·rcases bool_or ((decide (((s1_1:Nat):Int)>0))) with q6|q6
    ·skip
     refine y_mv q6 ?_
     refine y_cm q6 ?_
     refine aops_yes rfl rfl rfl rfl q5 (zau rfl (by first|rfl|exact q6) rfl rfl) (aops_nil ?_)
     exact wq q6
    iterate 2 refine np q6 ?_
    refine aops_yes rfl rfl rfl rfl q5 (zaz rfl (by first|rfl|exact q6) rfl rfl) (aops_nil ?_)
    exact wq q6
   refine s_pn q5 (aops_nil ?_)
   exact wq q5
  refine aops_nil ?_
  refine aw_if l1 (fun c7 l1=>?_) (fun c7 l1=>?_)
  ·refine aw_seq (aw_region ?_)
   iterate 3 refine s_sa ?_
   refine aops_nil ?_
   cases sj l1
   replace h:=onS_r h
   cases sj h
   exact aw_ret ⟨rfl,rv (rn (.cons o1 (.cons o1 (.cons o1 .nil))))⟩
  refine aw_skip (aw_seq (aw_region ?_))
  iterate 2 refine s_mv ?_
  refine zaa rfl (ev_bits rfl rfl rfl rfl (and_u8 (a0.getD s1_1 default) (127:UInt8))) ?_
  refine zaa rfl (zco rfl rfl Tryz.underlying5 Tryz.underlying107 (ziH ((a0.getD s1_1 default) &&& (127:UInt8)))) (s_mv ?_)
  obtain ⟨g8,l1⟩:=ifp_s l1
  refine zaa rfl (ev_mul rfl rfl rfl (nat_mul g8)) ?_
  refine zaa rfl (ev_shl rfl rfl rfl (nn _) (shl_u64 (((a0.getD s1_1 default) &&& (127:UInt8)).toUInt64) (nat_toNat (7*s1_1)))) ?_
  refine zaa rfl (ev_bits rfl rfl rfl rfl (or_u64 s1_0 (shl64 (((a0.getD s1_1 default) &&& (127:UInt8)).toUInt64) (7*s1_1)))) (s_sa ?_)
  refine aops_nil (aw_seq (aw_region (s_mv ?_)))
  refine s_cm (aops_nil ?_)
  refine aw_if l1 (fun c9 l1=>?_) (fun c9 l1=>?_)
  ·refine aw_seq (aw_region ?_)
   iterate 2 refine s_mv ?_
   obtain ⟨g10,l1⟩:=ifp_s l1
   refine zaa rfl (ev_add rfl rfl rfl (nat_add g10)) ?_
   iterate 3 refine s_sa ?_
   refine aops_nil ?_
   cases sj l1
   replace h:=onS_r h
   cases sj h
   exact aw_ret ⟨rfl,rv (rn (.cons o1 (.cons o1 (.cons o1 .nil))))⟩
  refine aw_skip (aw_region ?_)
  obtain ⟨g11,l1⟩:=ifp_s l1
  refine zaa rfl (ev_add rfl rfl rfl (nat_add g11)) (s_mv (aops_nil ?_))
  exact ⟨⟨(n1,(s1_0 ||| (shl64 (((a0.getD s1_1 default) &&& (127:UInt8)).toUInt64) (7*s1_1))),(s1_1+1)),l1⟩,Nat.lt_succ_self _,wk⟩
 refine aw_exit ?_
 show ∃_x:Unit,_=_∧Weak _ _
 exact ⟨(),sj l1,wk⟩
set_option maxHeartbeats 2000000 in
theorem zhP {k:Nat} {a0:List UInt8} {r:Int×Int×Int} (h:wire_Int k a0=some r):FnC Tryz.prog 109 [.one (CV.ls byC a0)] [] (Det (.tup [vI r.1,vI r.2.1,vI r.2.2]) []):=by
 unfold wire_Int at h
 refine fn_intro' 22 Tryz.func109 rfl rfl rfl (aw_seq (aw_region ?_))
 iterate 3 refine s_sa ?_
 refine aops_nil (aw_seq (aw_region (s_mv ?_)))
 obtain ⟨x1,hx1,h⟩:=bind_s h
 refine zaa rfl (ev_call_v (zgJ hx1) rfl [] ai rfl rfl rfl (.inl rfl) rfl) (s_mt ?_)
 iterate 3 refine s_ex ?_
 iterate 3 refine s_sa ?_
 refine aops_nil (aw_seq (aw_region (s_mv ?_)))
 refine zaa rfl (ev_shr rfl rfl rfl (by decide) (shr_u64 x1.1 (nat_toNat 1))) ?_
 refine zaa rfl (zco rfl rfl Tryz.underlying107 Tryz.underlying3 (wrap_W _)) (s_mv ?_)
 refine zaa rfl (ev_bits rfl rfl rfl rfl (and_u64 x1.1 (1:UInt64))) ?_
 refine zaa rfl (zco rfl rfl Tryz.underlying107 Tryz.underlying3 (wrap_W _)) (zaa rfl (st_neg rfl rfl (wrap_W _)) ?_)
 refine zaa rfl (ev_bits rfl rfl rfl rfl (ixor_i64 (W ((shr64 x1.1 1).toNat:Int)) (W (-(W ((x1.1 &&& (1:UInt64)).toNat:Int)))))) ?_
 iterate 2 refine s_mv ?_
 iterate 3 refine s_sa ?_
 refine aops_nil ?_
 cases sj h
 exact aw_ret ⟨rfl,rv (rn (.cons o1 (.cons o1 (.cons o1 .nil))))⟩
set_option maxHeartbeats 2000000 in
theorem zfY {k:Nat} {a0:List UInt8} {a1:Int} {r:Int×Int×Int} (h:zfI k a0 a1=some r):FnC Tryz.prog 108 [.one (CV.ls byC a0),vI a1] [] (Det (.tup [vI r.1,vI r.2.1,vI r.2.2]) []):=by
 unfold zfI at h
 refine fn_intro' 26 Tryz.func108 rfl rfl rfl (aw_seq (aw_region ?_))
 iterate 3 refine s_sa ?_
 refine aops_nil (aw_seq (aw_seq (aw_region (s_mv ?_))))
 refine s_cm (aops_nil ?_)
 refine aw_if h (fun c1 h=>?_) (fun c1 h=>?_)
 ·refine aw_seq (aw_region ?_)
  iterate 3 refine s_sa ?_
  refine aops_nil ?_
  cases sj h
  exact aw_ret ⟨rfl,rv (rn (.cons o1 (.cons o1 (.cons o1 .nil))))⟩
 refine aw_skip (aw_seq (aw_region (s_mv ?_)))
 obtain ⟨x2,hx2,h⟩:=bind_s h
 refine zaa rfl (ev_call_v (zgJ hx2) rfl [] ai rfl rfl rfl (.inl rfl) rfl) (s_mt ?_)
 iterate 3 refine s_ex ?_
 iterate 3 refine s_sa ?_
 refine aops_nil (aw_seq (aw_seq (aw_region (s_mv ?_))))
 refine s_cm (aops_nil ?_)
 refine aw_if h (fun c3 h=>?_) (fun c3 h=>?_)
 ·refine aw_seq (aw_region (s_mv ?_))
  iterate 3 refine s_sa ?_
  refine aops_nil ?_
  cases sj h
  exact aw_ret ⟨rfl,rv (rn (.cons o1 (.cons o1 (.cons o1 .nil))))⟩
 refine aw_skip (aw_seq (aw_seq (aw_region ?_)))
 iterate 2 refine s_mv ?_
 refine zaa rfl (zco rfl rfl Tryz.underlying3 Tryz.underlying107 (ofInt_u64 a1)) (s_cm (aops_nil ?_))
 refine aw_if h (fun c4 h=>?_) (fun c4 h=>?_)
 ·refine aw_seq (aw_region ?_)
  iterate 3 refine s_sa ?_
  refine aops_nil ?_
  cases sj h
  exact aw_ret ⟨rfl,rv (rn (.cons o1 (.cons o1 (.cons o1 .nil))))⟩
 refine aw_skip (aw_seq (aw_region (s_mv ?_)))
 refine zaa rfl (zco rfl rfl Tryz.underlying107 Tryz.underlying3 (wrap_W _)) (s_mv ?_)
 iterate 3 refine s_sa ?_
 refine aops_nil ?_
 cases sj h
 exact aw_ret ⟨rfl,rv (rn (.cons o1 (.cons o1 (.cons o1 .nil))))⟩
set_option maxHeartbeats 2000000 in
theorem zga {k:Nat} {a0:List UInt8} {a1:Int} {r:(List UInt8)×Int×Int} (h:zfR k a0 a1=some r):FnC Tryz.prog 91 [.one (CV.ls byC a0),vI a1] [] (Det (.tup [.one (.val (Sv r.1)),vI r.2.1,vI r.2.2]) []):=by
 unfold zfR at h
 refine fn_intro' 34 Tryz.func91 rfl rfl rfl (aw_seq (aw_region ?_))
 iterate 3 refine s_sa ?_
 refine aops_nil (aw_seq (aw_region ?_))
 iterate 2 refine s_mv ?_
 obtain ⟨x1,hx1,h⟩:=bind_s h
 refine zaa rfl (ev_call_v (zfY hx1) rfl [] ai rfl rfl rfl (.inl rfl) rfl) (s_mt ?_)
 iterate 3 refine s_ex ?_
 iterate 3 refine s_sa ?_
 refine aops_nil (aw_seq (aw_seq (aw_region (s_mv ?_))))
 refine s_cm (aops_nil ?_)
 refine aw_if h (fun c2 h=>?_) (fun c2 h=>?_)
 ·refine aw_seq (aw_region (s_mv ?_))
  iterate 3 refine s_sa ?_
  refine aops_nil ?_
  cases sj h
  exact aw_ret ⟨rfl,rv (rn (.cons o1 (.cons o1 (.cons o1 .nil))))⟩
 refine aw_skip (aw_seq (aw_seq (aw_region (s_mv ?_))))
 refine s_ln ?_
 refine s_mv ?_
 refine zaa rfl (ev_sub rfl rfl rfl (wrap_W _)) (s_mv ?_)
 refine s_cm (aops_nil ?_)
 refine aw_if h (fun c3 h=>?_) (fun c3 h=>?_)
 ·refine aw_seq (aw_region ?_)
  iterate 3 refine s_sa ?_
  refine aops_nil ?_
  cases sj h
  exact aw_ret ⟨rfl,rv (rn (.cons o1 (.cons o1 (.cons o1 .nil))))⟩
 refine aw_skip (aw_seq (aw_region ?_))
 iterate 4 refine s_mv ?_
 refine zaa rfl (ev_add rfl rfl rfl (wrap_W _)) ?_
 obtain ⟨g4,h⟩:=ifp_s h
 obtain ⟨g5,h⟩:=ifp_s h
 obtain ⟨g6,h⟩:=ifp_s h
 refine zaa rfl (zis (f:=byC) (fun _=>rfl) rfl ⟨_,_,rfl,(nn_eq g4)⟩ ⟨_,_,rfl,(nn_eq g5)⟩ g6 rfl) ?_
 refine zaa rfl (zik (.inl rfl) Tryz.underlying47 Tryz.underlying5 Tryz.underlying9 rfl) ?_
 iterate 2 refine s_mv ?_
 refine zaa rfl (ev_add rfl rfl rfl (wrap_W _)) ?_
 iterate 3 refine s_sa ?_
 refine aops_nil ?_
 cases sj h
 exact aw_ret ⟨rfl,rv (rn (.cons o1 (.cons o1 (.cons o1 .nil))))⟩
set_option maxHeartbeats 2000000 in
theorem zfy {k:Nat} {a0:List UInt8} {a1:Int} {r:(List Int)×Int×Int} (h:zdZ k a0 a1=some r):FnC Tryz.prog 120 [.one (CV.ls byC a0),vI a1,.one (.fn 109 [])] [] (Det (.tup [.one (CV.ls c_Int r.1),vI r.2.1,vI r.2.2]) []):=by
 unfold zdZ at h
 refine fn_intro' 52 Tryz.func120 rfl rfl rfl (aw_seq (aw_region ?_))
 iterate 3 refine s_sa ?_
 refine aops_nil (aw_seq (aw_region ?_))
 iterate 2 refine s_mv ?_
 obtain ⟨x1,hx1,h⟩:=bind_s h
 refine zaa rfl (ev_call_v (zfY hx1) rfl [] ai rfl rfl rfl (.inl rfl) rfl) (s_mt ?_)
 iterate 3 refine s_ex ?_
 iterate 3 refine s_sa ?_
 refine aops_nil (aw_seq (aw_seq (aw_region (s_sa ?_))))
 refine aops_nil (aw_block (zfl 6 0 3 1 (lsEl c_Int []) rfl rfl ?_))
 obtain ⟨o2,ho2,h⟩:=bind_s h
 refine aw_loop_x (ι:={p:Nat×Int×Int×Nat×(List Int) // zcc k a0 x1 p.1 p.2.1 p.2.2.1 p.2.2.2.1 p.2.2.2.2=some o2}) (fun p=>(⟨52,[],[(0,.one (CV.ls byC a0)),(2,.one (.fn 109 [])),(6,.one (.own 0)),(7,vI p.1.2.1),(8,vI p.1.2.2.1),(9,vI x1.1),(10,vI ((p.1.2.2.2.1:Nat):Int))],[(0,some (.row 3 1 p.1.2.2.2.2.length (lsEl c_Int p.1.2.2.2.2)))]⟩:ASt)) (fun p=>p.1.1) ⟨(k,x1.2.1,x1.2.2,0,([]:List Int)),ho2⟩ wk 0 (ε:=(Int×Int×(List Int))) (fun x=>(⟨52,[],[(6,.one (.own 0)),(7,vI x.1),(8,vI x.2.1)],[(0,some (.row 3 1 x.2.2.length (lsEl c_Int x.2.2)))]⟩:ASt)) (fun x=>x=o2) (fun _ _ w h=>aw_weak w h) ?_ ?_
 ·intro x2_0 hI2
  subst hI2
  refine aw_seq (aw_seq (aw_region (s_mv ?_)))
  refine s_cm (aops_nil ?_)
  refine aw_if h (fun c3 h=>?_) (fun c3 h=>?_)
  ·refine aw_seq (aw_region (s_mv ?_))
   iterate 3 refine s_sa ?_
   refine aops_nil ?_
   cases sj h
   exact aw_ret ⟨rfl,rv (rn (.cons o1 (.cons o1 (.cons o1 .nil))))⟩
  refine aw_skip (aw_seq (aw_region ?_))
  iterate 2 refine s_mv ?_
  iterate 3 refine s_sa ?_
  refine aops_nil ?_
  cases sj h
  refine aw_freeze 0 rfl ?_
  exact aw_ret ⟨rfl,rv (rn (.cons o1 (.cons o1 (.cons o1 .nil))))⟩
 intro p2
 obtain ⟨⟨n2,s2_0,s2_1,s2_2,s2_3⟩,l2⟩:=p2
 replace l2:zcc k a0 x1 n2 s2_0 s2_1 s2_2 s2_3=some o2:=l2
 rcases n2 with _|n2
 ·exact absurd (show none=some o2 from l2) nofun
 rw [zcc] at l2
 refine aw_seq (aw_seq (aw_region (s_mv ?_)))
 refine s_cm ?_
 refine s_mv ?_
 refine bo 4 ((s2_1==0)&&(decide (((s2_2:Nat):Int)<x1.1))) ?_
 refine aops_nil ?_
 refine aw_if l2 (fun c5 l2=>?_) (fun c5 l2=>?_)
 ·refine aw_skip (aw_seq (aw_block (aw_seq (aw_region ?_))))
  iterate 3 refine s_mv ?_
  obtain ⟨g6,l2⟩:=ifp_s l2
  obtain ⟨g7,l2⟩:=ifp_s l2
  refine zaa rfl (st_cut_lo (f:=byC) (fun _=>rfl) rfl ⟨_,_,rfl,(nn_eq g6)⟩ g7 rfl) ?_
  obtain ⟨x8,hx8,l2⟩:=bind_s l2
  refine zaa rfl (ev_callee rfl (ev_call_v (zhP hx8) rfl [] ai rfl rfl rfl (.inl rfl) rfl)) (s_mt ?_)
  iterate 3 refine s_ex ?_
  iterate 3 refine s_sa ?_
  refine aops_nil (aw_region ?_)
  iterate 2 refine s_mv ?_
  refine zaa rfl (zac (el:=lsEl c_Int [x8.1]) 1 rfl rfl rfl rfl rfl rfl rfl rfl (lit_el c_Int 1 [x8.1] (fun _=>rfl)) rfl) ?_
  obtain ⟨g9,l2⟩:=ifp_s l2
  refine zaa rfl (st_app_ls (f:=c_Int) s2_3 [x8.1] (fun _=>rfl) rfl rfl (.inr ⟨_,_,rfl,rfl⟩) (by omega) (by omega) rfl) ?_
  iterate 2 refine s_mv ?_
  refine zaa rfl (ev_add rfl rfl rfl (wrap_W _)) (s_mv ?_)
  iterate 3 refine s_sa ?_
  refine aops_nil (aw_region (s_mv ?_))
  obtain ⟨g10,l2⟩:=ifp_s l2
  refine zaa rfl (ev_add rfl rfl rfl (nat_add g10)) (s_sa (aops_nil ?_))
  exact ⟨⟨(n2,(W (s2_0+x8.2.1)),x8.2.2,(s2_2+1),(s2_3++[x8.1])),l2⟩,Nat.lt_succ_self _,wk⟩
 refine aw_exit ?_
 show ∃_x:Int×Int×(List Int),_=_∧Weak _ _
 exact ⟨(s2_0,s2_1,s2_3),sj l2,wk⟩
set_option maxHeartbeats 2000000 in
theorem zgE {k:Nat} {a0:List UInt8} {a1:Int} {r:(List Int)×Int×Int} (h:zfT k a0 a1=some r):FnC Tryz.prog 111 [.one (CV.ls byC a0),vI a1] [] (Det (.tup [.one (CV.ls c_Int r.1),vI r.2.1,vI r.2.2]) []):=by
 unfold zfT at h
 refine fn_intro' 13 Tryz.func111 rfl rfl rfl (aw_seq (aw_region ?_))
 iterate 3 refine s_sa ?_
 refine aops_nil (aw_seq (aw_region ?_))
 iterate 2 refine s_mv ?_
 obtain ⟨x1,hx1,h⟩:=bind_s h
 refine zaa rfl (ev_call_v (zfy hx1) rfl [] ai rfl rfl rfl (.inl rfl) rfl) ?_
 iterate 3 refine s_ex ?_
 iterate 3 refine s_sa ?_
 refine aops_nil ?_
 cases sj h
 exact aw_ret ⟨rfl,rv (rn (.cons o1 (.cons o1 (.cons o1 .nil))))⟩
set_option maxHeartbeats 2000000 in
theorem zgL {k:Nat} {a0:List UInt8} {r:(List UInt8)×Int×Int} (h:zfd k a0=some r):FnC Tryz.prog 122 [.one (CV.ls byC a0)] [] (Det (.tup [.one (.val (Sv r.1)),vI r.2.1,vI r.2.2]) []):=by
 unfold zfd at h
 refine fn_intro' 10 Tryz.func122 rfl rfl rfl (aw_seq (aw_region ?_))
 iterate 3 refine s_sa ?_
 refine aops_nil (aw_seq (aw_region (s_mv ?_)))
 obtain ⟨x1,hx1,h⟩:=bind_s h
 refine zaa rfl (ev_call_v (zga hx1) rfl [] ai rfl rfl rfl (.inl rfl) rfl) ?_
 iterate 3 refine s_ex ?_
 iterate 3 refine s_sa ?_
 refine aops_nil ?_
 cases sj h
 exact aw_ret ⟨rfl,rv (rn (.cons o1 (.cons o1 (.cons o1 .nil))))⟩
set_option maxHeartbeats 2000000 in
theorem zen {k:Nat} {a0:List UInt8} {a1:Int} {r:(List (List UInt8))×Int×Int} (h:zcF k a0 a1=some r):FnC Tryz.prog 121 [.one (CV.ls byC a0),vI a1,.one (.fn 122 [])] [] (Det (.tup [.one (CV.ls c_Str r.1),vI r.2.1,vI r.2.2]) []):=by
 unfold zcF at h
 refine fn_intro' 52 Tryz.func121 rfl rfl rfl (aw_seq (aw_region ?_))
 iterate 3 refine s_sa ?_
 refine aops_nil (aw_seq (aw_region ?_))
 iterate 2 refine s_mv ?_
 obtain ⟨x1,hx1,h⟩:=bind_s h
 refine zaa rfl (ev_call_v (zfY hx1) rfl [] ai rfl rfl rfl (.inl rfl) rfl) (s_mt ?_)
 iterate 3 refine s_ex ?_
 iterate 3 refine s_sa ?_
 refine aops_nil (aw_seq (aw_seq (aw_region (s_sa ?_))))
 refine aops_nil (aw_block (zfl 6 0 9 1 (lsEl c_Str []) rfl rfl ?_))
 obtain ⟨o2,ho2,h⟩:=bind_s h
 refine aw_loop_x (ι:={p:Nat×Int×Int×Nat×(List (List UInt8)) // zbp k a0 x1 p.1 p.2.1 p.2.2.1 p.2.2.2.1 p.2.2.2.2=some o2}) (fun p=>(⟨52,[],[(0,.one (CV.ls byC a0)),(2,.one (.fn 122 [])),(6,.one (.own 0)),(7,vI p.1.2.1),(8,vI p.1.2.2.1),(9,vI x1.1),(10,vI ((p.1.2.2.2.1:Nat):Int))],[(0,some (.row 9 1 p.1.2.2.2.2.length (lsEl c_Str p.1.2.2.2.2)))]⟩:ASt)) (fun p=>p.1.1) ⟨(k,x1.2.1,x1.2.2,0,([]:List (List UInt8))),ho2⟩ wk 0 (ε:=(Int×Int×(List (List UInt8)))) (fun x=>(⟨52,[],[(6,.one (.own 0)),(7,vI x.1),(8,vI x.2.1)],[(0,some (.row 9 1 x.2.2.length (lsEl c_Str x.2.2)))]⟩:ASt)) (fun x=>x=o2) (fun _ _ w h=>aw_weak w h) ?_ ?_
 ·intro x2_0 hI2
  subst hI2
  refine aw_seq (aw_seq (aw_region (s_mv ?_)))
  refine s_cm (aops_nil ?_)
  refine aw_if h (fun c3 h=>?_) (fun c3 h=>?_)
  ·refine aw_seq (aw_region (s_mv ?_))
   iterate 3 refine s_sa ?_
   refine aops_nil ?_
   cases sj h
   exact aw_ret ⟨rfl,rv (rn (.cons o1 (.cons o1 (.cons o1 .nil))))⟩
  refine aw_skip (aw_seq (aw_region ?_))
  iterate 2 refine s_mv ?_
  iterate 3 refine s_sa ?_
  refine aops_nil ?_
  cases sj h
  refine aw_freeze 0 rfl ?_
  exact aw_ret ⟨rfl,rv (rn (.cons o1 (.cons o1 (.cons o1 .nil))))⟩
 intro p2
 obtain ⟨⟨n2,s2_0,s2_1,s2_2,s2_3⟩,l2⟩:=p2
 replace l2:zbp k a0 x1 n2 s2_0 s2_1 s2_2 s2_3=some o2:=l2
 rcases n2 with _|n2
 ·exact absurd (show none=some o2 from l2) nofun
 rw [zbp] at l2
 refine aw_seq (aw_seq (aw_region (s_mv ?_)))
 refine s_cm ?_
 refine s_mv ?_
 refine bo 4 ((s2_1==0)&&(decide (((s2_2:Nat):Int)<x1.1))) ?_
 refine aops_nil ?_
 refine aw_if l2 (fun c5 l2=>?_) (fun c5 l2=>?_)
 ·refine aw_skip (aw_seq (aw_block (aw_seq (aw_region ?_))))
  iterate 3 refine s_mv ?_
  obtain ⟨g6,l2⟩:=ifp_s l2
  obtain ⟨g7,l2⟩:=ifp_s l2
  refine zaa rfl (st_cut_lo (f:=byC) (fun _=>rfl) rfl ⟨_,_,rfl,(nn_eq g6)⟩ g7 rfl) ?_
  obtain ⟨x8,hx8,l2⟩:=bind_s l2
  refine zaa rfl (ev_callee rfl (ev_call_v (zgL hx8) rfl [] ai rfl rfl rfl (.inl rfl) rfl)) (s_mt ?_)
  iterate 3 refine s_ex ?_
  iterate 3 refine s_sa ?_
  refine aops_nil (aw_region ?_)
  iterate 2 refine s_mv ?_
  refine zaa rfl (zac (el:=lsEl c_Str [x8.1]) 1 rfl rfl rfl rfl rfl rfl rfl rfl (lit_el c_Str 1 [x8.1] (fun _=>rfl)) rfl) ?_
  obtain ⟨g9,l2⟩:=ifp_s l2
  refine zaa rfl (st_app_ls (f:=c_Str) s2_3 [x8.1] (fun _=>rfl) rfl rfl (.inr ⟨_,_,rfl,rfl⟩) (by omega) (by omega) rfl) ?_
  iterate 2 refine s_mv ?_
  refine zaa rfl (ev_add rfl rfl rfl (wrap_W _)) (s_mv ?_)
  iterate 3 refine s_sa ?_
  refine aops_nil (aw_region (s_mv ?_))
  obtain ⟨g10,l2⟩:=ifp_s l2
  refine zaa rfl (ev_add rfl rfl rfl (nat_add g10)) (s_sa (aops_nil ?_))
  exact ⟨⟨(n2,(W (s2_0+x8.2.1)),x8.2.2,(s2_2+1),(s2_3++[x8.1])),l2⟩,Nat.lt_succ_self _,wk⟩
 refine aw_exit ?_
 show ∃_x:Int×Int×(List (List UInt8)),_=_∧Weak _ _
 exact ⟨(s2_0,s2_1,s2_3),sj l2,wk⟩
set_option maxHeartbeats 2000000 in
theorem zgZ {k:Nat} {a0:List UInt8} {a1:Int} {r:(List (List UInt8))×Int×Int} (h:zfv k a0 a1=some r):FnC Tryz.prog 112 [.one (CV.ls byC a0),vI a1] [] (Det (.tup [.one (CV.ls c_Str r.1),vI r.2.1,vI r.2.2]) []):=by
 unfold zfv at h
 refine fn_intro' 13 Tryz.func112 rfl rfl rfl (aw_seq (aw_region ?_))
 iterate 3 refine s_sa ?_
 refine aops_nil (aw_seq (aw_region ?_))
 iterate 2 refine s_mv ?_
 obtain ⟨x1,hx1,h⟩:=bind_s h
 refine zaa rfl (ev_call_v (zen hx1) rfl [] ai rfl rfl rfl (.inl rfl) rfl) ?_
 iterate 3 refine s_ex ?_
 iterate 3 refine s_sa ?_
 refine aops_nil ?_
 cases sj h
 exact aw_ret ⟨rfl,rv (rn (.cons o1 (.cons o1 (.cons o1 .nil))))⟩
set_option maxHeartbeats 2000000 in
theorem zhG {k:Nat} {a0:List UInt8} {r:Int×Int×Int} (h:zgG k a0=some r):FnC Tryz.prog 110 [.one (CV.ls byC a0)] [] (Det (.tup [vI r.1,vI r.2.1,vI r.2.2]) []):=by
 unfold zgG at h
 refine fn_intro' 18 Tryz.func110 rfl rfl rfl (aw_seq (aw_region ?_))
 iterate 3 refine s_sa ?_
 refine aops_nil (aw_seq (aw_block (aw_seq (aw_region (s_mv ?_)))))
 refine s_ln ?_
 refine s_cm ?_
 refine s_sa (aops_nil ?_)
 refine aw_if h (fun c1 h=>?_) (fun c1 h=>?_)
 ·refine aw_seq (aw_region ?_)
  iterate 3 refine s_sa ?_
  refine aops_nil ?_
  cases sj h
  exact aw_ret ⟨rfl,rv (rn (.cons o1 (.cons o1 (.cons o1 .nil))))⟩
 refine aw_seq (aw_region (s_mv ?_))
 obtain ⟨g2,h⟩:=ifp_s h
 refine zaa rfl (zaf rfl rfl rfl g2 rfl rfl) (zaa rfl (zas rfl rfl rfl) (s_cm ?_))
 refine s_sa (aops_nil ?_)
 refine aw_if h (fun c3 h=>?_) (fun c3 h=>?_)
 ·refine aw_seq (aw_region ?_)
  iterate 3 refine s_sa ?_
  refine aops_nil ?_
  cases sj h
  exact aw_ret ⟨rfl,rv (rn (.cons o1 (.cons o1 (.cons o1 .nil))))⟩
 refine aw_skip (aw_seq (aw_region (s_mv ?_)))
 obtain ⟨g4,h⟩:=ifp_s h
 refine zaa rfl (zaf rfl rfl rfl g4 rfl rfl) (zaa rfl (zas rfl rfl rfl) ?_)
 refine zaa rfl (zco rfl rfl Tryz.underlying5 Tryz.underlying3 (zhJ (a0.getD 0 default))) ?_
 iterate 3 refine s_sa ?_
 refine aops_nil ?_
 cases sj h
 exact aw_ret ⟨rfl,rv (rn (.cons o1 (.cons o1 (.cons o1 .nil))))⟩
set_option maxHeartbeats 2000000 in
theorem zhW {k:Nat} {a0:List UInt8} {r:Value×Int×Int} (h:zhA k a0=some r):FnC Tryz.prog 92 [.one (CV.ls byC a0)] [] (Det (.tup [.agg (c_Value r.1),vI r.2.1,vI r.2.2]) []):=by
 unfold zhA at h
 refine fn_intro' 73 Tryz.func92 rfl rfl rfl (aw_seq (aw_region ?_))
 refine zaa rfl (st_alloc (cs:=[cI 0,cI 0,.val (Sv []),.val (.slice none 0 0),.val (.slice none 0 0)]) 0 rfl rfl rfl rfl rfl) ?_
 iterate 2 refine s_sa ?_
 refine aops_nil (aw_seq (aw_seq (aw_region (s_mv ?_))))
 refine s_ln ?_
 refine s_cm (aops_nil ?_)
 refine aw_if h (fun c1 h=>?_) (fun c1 h=>?_)
 ·refine aw_seq (aw_region (zaa rfl (ev_build' (out:=[_,_,_,_,_]) rfl rfl rfl rfl rfl) (s_st [_,_,_,_,_] ?_)))
  iterate 2 refine s_sa ?_
  refine aops_nil ?_
  cases sj h
  exact aw_ret ⟨rfl,rv (rn (.cons (va [_,_,_,_,_]) (.cons o1 (.cons o1 .nil))))⟩
 refine aw_skip (aw_seq (aw_region (s_mv ?_)))
 obtain ⟨g2,h⟩:=ifp_s h
 refine zaa rfl (zaf rfl rfl rfl g2 rfl rfl) (zaa rfl (zas rfl rfl rfl) ?_)
 refine zaa rfl (zco rfl rfl Tryz.underlying5 Tryz.underlying3 (zhJ (a0.getD 0 default))) (s_fd ?_)
 refine s_st [_,_,_,_,_] ?_
 refine aops_nil (aw_seq (aw_region (s_mv ?_)))
 obtain ⟨g3,h⟩:=ifp_s h
 refine zaa rfl (st_cut_lo (f:=byC) (fun _=>rfl) rfl ⟨_,_,rfl,rfl⟩ g3 rfl) (s_sa ?_)
 refine aops_nil (aw_seq (aw_seq (aw_region (s_fd ?_))))
 refine s_ld ?_
 refine aops_nil (aw_block (aw_seq (aw_region (s_cm ?_))))
 refine s_sa (aops_nil ?_)
 refine aw_if h (fun c4 h=>?_) (fun c4 h=>?_)
 ·refine aw_skip (aw_seq (aw_seq (aw_region (s_mv ?_))))
  refine zaa rfl (ev_cmp (b:=false) rfl rfl rfl rfl) (aops_nil (aw_no rfl (rfl) (aw_skip (aw_seq (aw_region (s_ls [_,_,_,_,_] ?_))))))
  refine s_mv ?_
  refine zaa rfl (ev_add (q:=1) rfl rfl rfl (by decide)) (s_st [_,_,_,_,_] ?_)
  iterate 2 refine s_sa ?_
  refine aops_nil ?_
  cases sj h
  exact aw_ret ⟨rfl,rv (rn (.cons (va [_,_,_,_,_]) (.cons o1 (.cons o1 .nil))))⟩
 refine aw_seq (aw_region (s_cm ?_))
 refine s_sa (aops_nil ?_)
 refine aw_if h (fun c5 h=>?_) (fun c5 h=>?_)
 ·refine aw_region (s_mv ?_)
  obtain ⟨x6,hx6,h⟩:=bind_s h
  refine zaa rfl (ev_call_v (zhP hx6) rfl [] ai rfl rfl rfl (.inl rfl) rfl) (s_mt ?_)
  iterate 3 refine s_ex ?_
  refine s_fd ?_
  refine s_st [_,_,_,_,_] ?_
  iterate 2 refine s_sa ?_
  refine aops_nil (aw_seq (aw_seq (aw_region (s_mv ?_))))
  refine s_cm (aops_nil ?_)
  refine aw_if h (fun c7 h=>?_) (fun c7 h=>?_)
  ·refine aw_seq (aw_region (zaa rfl (ev_build' (out:=[_,_,_,_,_]) rfl rfl rfl rfl rfl) (s_mv ?_)))
   refine s_st [_,_,_,_,_] ?_
   iterate 2 refine s_sa ?_
   refine aops_nil ?_
   cases sj h
   exact aw_ret ⟨rfl,rv (rn (.cons (va [_,_,_,_,_]) (.cons o1 (.cons o1 .nil))))⟩
  refine aw_skip (aw_seq (aw_region (s_ls [_,_,_,_,_] ?_)))
  refine s_mv ?_
  refine zaa rfl (ev_add rfl rfl rfl (wrap_W _)) (s_st [_,_,_,_,_] ?_)
  iterate 2 refine s_sa ?_
  refine aops_nil ?_
  cases sj h
  exact aw_ret ⟨rfl,rv (rn (.cons (va [_,_,_,_,_]) (.cons o1 (.cons o1 .nil))))⟩
 refine aw_seq (aw_region (s_cm ?_))
 refine s_sa (aops_nil ?_)
 refine aw_if h (fun c8 h=>?_) (fun c8 h=>?_)
 ·refine aw_region (s_mv ?_)
  obtain ⟨x9,hx9,h⟩:=bind_s h
  refine zaa rfl (ev_call_v (zhG hx9) rfl [] ai rfl rfl rfl (.inl rfl) rfl) (s_mt ?_)
  iterate 3 refine s_ex ?_
  refine s_fd ?_
  refine s_st [_,_,_,_,_] ?_
  iterate 2 refine s_sa ?_
  refine aops_nil (aw_seq (aw_seq (aw_region (s_mv ?_))))
  refine s_cm (aops_nil ?_)
  refine aw_if h (fun c10 h=>?_) (fun c10 h=>?_)
  ·refine aw_seq (aw_region (zaa rfl (ev_build' (out:=[_,_,_,_,_]) rfl rfl rfl rfl rfl) (s_mv ?_)))
   refine s_st [_,_,_,_,_] ?_
   iterate 2 refine s_sa ?_
   refine aops_nil ?_
   cases sj h
   exact aw_ret ⟨rfl,rv (rn (.cons (va [_,_,_,_,_]) (.cons o1 (.cons o1 .nil))))⟩
  refine aw_skip (aw_seq (aw_region (s_ls [_,_,_,_,_] ?_)))
  refine s_mv ?_
  refine zaa rfl (ev_add rfl rfl rfl (wrap_W _)) (s_st [_,_,_,_,_] ?_)
  iterate 2 refine s_sa ?_
  refine aops_nil ?_
  cases sj h
  exact aw_ret ⟨rfl,rv (rn (.cons (va [_,_,_,_,_]) (.cons o1 (.cons o1 .nil))))⟩
 refine aw_seq (aw_region (s_cm ?_))
 refine s_sa (aops_nil ?_)
 refine aw_if h (fun c11 h=>?_) (fun c11 h=>?_)
 ·refine aw_region (s_mv ?_)
  obtain ⟨x12,hx12,h⟩:=bind_s h
  refine zaa rfl (ev_call_v (zga hx12) rfl [] ai rfl rfl rfl (.inl rfl) rfl) (s_mt ?_)
  iterate 3 refine s_ex ?_
  refine s_fd ?_
  refine s_st [_,_,_,_,_] ?_
  iterate 2 refine s_sa ?_
  refine aops_nil (aw_seq (aw_seq (aw_region (s_mv ?_))))
  refine s_cm (aops_nil ?_)
  refine aw_if h (fun c13 h=>?_) (fun c13 h=>?_)
  ·refine aw_seq (aw_region (zaa rfl (ev_build' (out:=[_,_,_,_,_]) rfl rfl rfl rfl rfl) (s_mv ?_)))
   refine s_st [_,_,_,_,_] ?_
   iterate 2 refine s_sa ?_
   refine aops_nil ?_
   cases sj h
   exact aw_ret ⟨rfl,rv (rn (.cons (va [_,_,_,_,_]) (.cons o1 (.cons o1 .nil))))⟩
  refine aw_skip (aw_seq (aw_region (s_ls [_,_,_,_,_] ?_)))
  refine s_mv ?_
  refine zaa rfl (ev_add rfl rfl rfl (wrap_W _)) (s_st [_,_,_,_,_] ?_)
  iterate 2 refine s_sa ?_
  refine aops_nil ?_
  cases sj h
  exact aw_ret ⟨rfl,rv (rn (.cons (va [_,_,_,_,_]) (.cons o1 (.cons o1 .nil))))⟩
 refine aw_seq (aw_region (s_cm ?_))
 refine s_sa (aops_nil ?_)
 refine aw_if h (fun c14 h=>?_) (fun c14 h=>?_)
 ·refine aw_region (s_mv ?_)
  obtain ⟨x15,hx15,h⟩:=bind_s h
  refine zaa rfl (ev_call_v (zgE hx15) rfl [] ai rfl rfl rfl (.inl rfl) rfl) (s_mt ?_)
  iterate 3 refine s_ex ?_
  refine s_fd ?_
  refine s_st [_,_,_,_,_] ?_
  iterate 2 refine s_sa ?_
  refine aops_nil (aw_seq (aw_seq (aw_region (s_mv ?_))))
  refine s_cm (aops_nil ?_)
  refine aw_if h (fun c16 h=>?_) (fun c16 h=>?_)
  ·refine aw_seq (aw_region (zaa rfl (ev_build' (out:=[_,_,_,_,_]) rfl rfl rfl rfl rfl) (s_mv ?_)))
   refine s_st [_,_,_,_,_] ?_
   iterate 2 refine s_sa ?_
   refine aops_nil ?_
   cases sj h
   exact aw_ret ⟨rfl,rv (rn (.cons (va [_,_,_,_,_]) (.cons o1 (.cons o1 .nil))))⟩
  refine aw_skip (aw_seq (aw_region (s_ls [_,_,_,_,_] ?_)))
  refine s_mv ?_
  refine zaa rfl (ev_add rfl rfl rfl (wrap_W _)) (s_st [_,_,_,_,_] ?_)
  iterate 2 refine s_sa ?_
  refine aops_nil ?_
  cases sj h
  exact aw_ret ⟨rfl,rv (rn (.cons (va [_,_,_,_,_]) (.cons o1 (.cons o1 .nil))))⟩
 refine aw_seq (aw_region (s_cm ?_))
 refine s_sa (aops_nil ?_)
 refine aw_if h (fun c17 h=>?_) (fun c17 h=>?_)
 ·refine aw_region (s_mv ?_)
  obtain ⟨x18,hx18,h⟩:=bind_s h
  refine zaa rfl (ev_call_v (zgZ hx18) rfl [] ai rfl rfl rfl (.inl rfl) rfl) (s_mt ?_)
  iterate 3 refine s_ex ?_
  refine s_fd ?_
  refine s_st [_,_,_,_,_] ?_
  iterate 2 refine s_sa ?_
  refine aops_nil (aw_seq (aw_seq (aw_region (s_mv ?_))))
  refine s_cm (aops_nil ?_)
  refine aw_if h (fun c19 h=>?_) (fun c19 h=>?_)
  ·refine aw_seq (aw_region (zaa rfl (ev_build' (out:=[_,_,_,_,_]) rfl rfl rfl rfl rfl) (s_mv ?_)))
   refine s_st [_,_,_,_,_] ?_
   iterate 2 refine s_sa ?_
   refine aops_nil ?_
   cases sj h
   exact aw_ret ⟨rfl,rv (rn (.cons (va [_,_,_,_,_]) (.cons o1 (.cons o1 .nil))))⟩
  refine aw_skip (aw_seq (aw_region (s_ls [_,_,_,_,_] ?_)))
  refine s_mv ?_
  refine zaa rfl (ev_add rfl rfl rfl (wrap_W _)) (s_st [_,_,_,_,_] ?_)
  iterate 2 refine s_sa ?_
  refine aops_nil ?_
  cases sj h
  exact aw_ret ⟨rfl,rv (rn (.cons (va [_,_,_,_,_]) (.cons o1 (.cons o1 .nil))))⟩
 refine aw_region (s_sa ?_)
 refine aops_nil (aw_seq (aw_seq (aw_region (s_mv ?_))))
 refine zaa rfl (ev_cmp (b:=true) rfl rfl rfl rfl) (aops_nil (aw_yes rfl (rfl) (aw_seq (aw_region ?_))))
 refine zaa rfl (ev_build' (out:=[_,_,_,_,_]) rfl rfl rfl rfl rfl) (s_mv ?_)
 refine s_st [_,_,_,_,_] ?_
 iterate 2 refine s_sa ?_
 refine aops_nil ?_
 cases sj h
 exact aw_ret ⟨rfl,rv (rn (.cons (va [_,_,_,_,_]) (.cons o1 (.cons o1 .nil))))⟩
set_option maxHeartbeats 2000000 in
theorem zdv {k:Nat} {a0:Bytecodereader} {a1:Int} {a2:Int} {r:Bytecodereader} (h:zcX k a0 a1 a2=some r):FnC Tryz.prog 56 [.one (.ptr 0 0),vI a1,vI a2] (boxesH 0 [(zan a0)]) (Det (.tup []) (boxesH 0 [(zan r)])):=by
 unfold zcX at h
 refine fn_intro' 20 Tryz.func56 rfl rfl rfl (aw_seq (aw_seq (aw_region (s_mv ?_))))
 refine s_cm (aops_nil ?_)
 refine aw_if h (fun c1 h=>?_) (fun c1 h=>?_)
 ·refine aw_seq (aw_region (s_mv ?_))
  refine zaa rfl (ev_nilc rfl rfl) (s_fd ?_)
  refine s_st [_,_] (aops_nil ?_)
  cases sj h
  refine aw_ret ⟨rfl,ret_b (bs:=[(zan (⟨a0.b,true⟩:Bytecodereader))]) (rn (.nil)) rfl rfl rfl rfl rfl (by intro i cs h;rcases i with _|i<;>simp at h<;>(subst h;rfl)) ?_⟩
  (repeat' (first|exact .refl _|exact .nil|refine .tup ?_|refine .v ?_|refine .cons ?_ ?_|refine .agg ?_|refine .one ?_|exact .nil _|exact .emp _|refine .val ?_|refine .slc ?_ ?_|fail))
 refine aw_skip (aw_region ?_)
 iterate 2 refine s_mv ?_
 refine zaa rfl (ev_nilc rfl rfl) (s_fd ?_)
 refine s_ld ?_
 refine s_mv ?_
 obtain ⟨g2,h⟩:=ifp_s h
 obtain ⟨g3,h⟩:=ifp_s h
 refine zaa rfl (st_cut_lo (f:=byC) (fun _=>rfl) rfl ⟨_,_,rfl,(nn_eq g2)⟩ g3 rfl) (zaa rfl (ev_nilc rfl rfl) (s_fd ?_))
 refine s_st [_,_] (aops_nil ?_)
 cases sj h
 refine ⟨rfl,ret_b (bs:=[(zan (⟨(a0.b.drop ((a1).toNat)),a0.failed⟩:Bytecodereader))]) (rn (.nil)) rfl rfl rfl rfl rfl (by intro i cs h;rcases i with _|i<;>simp at h<;>(subst h;rfl)) ?_⟩
 (repeat' (first|exact .refl _|exact .nil|refine .tup ?_|refine .v ?_|refine .cons ?_ ?_|refine .agg ?_|refine .one ?_|exact .nil _|exact .emp _|refine .val ?_|refine .slc ?_ ?_|fail))
set_option maxHeartbeats 2000000 in
theorem zby {k:Nat} {a0:Bytecodereader} {a1:Int} {r:Int×Bytecodereader} (h:zbu k a0 a1=some r):FnC Tryz.prog 21 [.one (.ptr 0 0),vI a1] (boxesH 0 [(zan a0)]) (Det (vI r.1) (boxesH 0 [(zan r.2)])):=by
 unfold zbu at h
 refine fn_intro' 30 Tryz.func21 rfl rfl rfl (aw_seq (aw_region (s_sa ?_)))
 refine aops_nil (aw_seq (aw_region (s_mv ?_)))
 refine zaa rfl (ev_nilc rfl rfl) (s_fd ?_)
 refine s_ld ?_
 obtain ⟨x1,hx1,h⟩:=bind_s h
 refine zaa rfl (ev_call_v (zgJ hx1) rfl [] ai rfl rfl rfl (.inl rfl) rfl) (s_mt ?_)
 iterate 3 refine s_ex ?_
 iterate 3 refine s_sa ?_
 refine aops_nil (aw_seq (aw_region ?_))
 iterate 3 refine s_mv ?_
 obtain ⟨x2,hx2,h⟩:=bind_s h
 refine zaa rfl (ev_call_b [0] (zdv hx2) rfl [] ai rfl rfl rfl rfl rfl rfl (.cons rfl .nil) rfl rfl rfl (.inl rfl) rfl) (aops_nil (aw_seq (aw_seq (aw_region ?_))))
 iterate 2 refine s_mv ?_
 refine zaa rfl (zco rfl rfl Tryz.underlying3 Tryz.underlying107 (ofInt_u64 a1)) (s_cm (aops_nil ?_))
 refine aw_if h (fun c3 h=>?_) (fun c3 h=>?_)
 ·refine aw_seq (aw_region (s_mv ?_))
  refine zaa rfl (ev_nilc rfl rfl) (s_fd ?_)
  refine s_st [_,_] ?_
  refine aops_nil (aw_seq (aw_region (s_sa (aops_nil ?_))))
  cases sj h
  refine aw_ret ⟨rfl,ret_b (bs:=[(zan (⟨x2.b,true⟩:Bytecodereader))]) r1 rfl rfl rfl rfl rfl (by intro i cs h;rcases i with _|i<;>simp at h<;>(subst h;rfl)) ?_⟩
  (repeat' (first|exact .refl _|exact .nil|refine .tup ?_|refine .v ?_|refine .cons ?_ ?_|refine .agg ?_|refine .one ?_|exact .nil _|exact .emp _|refine .val ?_|refine .slc ?_ ?_|fail))
 refine aw_skip (aw_seq (aw_region (s_mv ?_)))
 refine zaa rfl (zco rfl rfl Tryz.underlying107 Tryz.underlying3 (wrap_W _)) (s_sa (aops_nil ?_))
 cases sj h
 refine aw_ret ⟨rfl,ret_b (bs:=[(zan x2)]) r1 rfl rfl rfl rfl rfl (by intro i cs h;rcases i with _|i<;>simp at h<;>(subst h;rfl)) ?_⟩
 (repeat' (first|exact .refl _|exact .nil|refine .tup ?_|refine .v ?_|refine .cons ?_ ?_|refine .agg ?_|refine .one ?_|exact .nil _|exact .emp _|refine .val ?_|refine .slc ?_ ?_|fail))
set_option maxHeartbeats 2000000 in
theorem zdW {k:Nat} {a0:Bytecodereader} {r:(List UInt8)×Bytecodereader} (h:zdt k a0=some r):FnC Tryz.prog 57 [.one (.ptr 0 0)] (boxesH 0 [(zan a0)]) (Det (.one (.val (Sv r.1))) (boxesH 0 [(zan r.2)])):=by
 unfold zdt at h
 refine fn_intro' 20 Tryz.func57 rfl rfl rfl (aw_seq (aw_region (s_sa ?_)))
 refine aops_nil (aw_seq (aw_region (s_mv ?_)))
 refine zaa rfl (ev_nilc rfl rfl) (s_fd ?_)
 refine s_ld ?_
 obtain ⟨x1,hx1,h⟩:=bind_s h
 refine zaa rfl (ev_call_v (zga hx1) rfl [] ai rfl rfl rfl (.inl rfl) rfl) (s_mt ?_)
 iterate 3 refine s_ex ?_
 iterate 3 refine s_sa ?_
 refine aops_nil (aw_seq (aw_region ?_))
 iterate 3 refine s_mv ?_
 obtain ⟨x2,hx2,h⟩:=bind_s h
 refine zaa rfl (ev_call_b [0] (zdv hx2) rfl [] ai rfl rfl rfl rfl rfl rfl (.cons rfl .nil) rfl rfl rfl (.inl rfl) rfl) (aops_nil ?_)
 refine aw_seq (aw_region (s_mv ?_))
 refine s_sa (aops_nil ?_)
 cases sj h
 refine aw_ret ⟨rfl,ret_b (bs:=[(zan x2)]) r1 rfl rfl rfl rfl rfl (by intro i cs h;rcases i with _|i<;>simp at h<;>(subst h;rfl)) ?_⟩
 (repeat' (first|exact .refl _|exact .nil|refine .tup ?_|refine .v ?_|refine .cons ?_ ?_|refine .agg ?_|refine .one ?_|exact .nil _|exact .emp _|refine .val ?_|refine .slc ?_ ?_|fail))
set_option maxHeartbeats 2000000 in
theorem zeB {k:Nat} {a0:Bytecodereader} {r:Value×Bytecodereader} (h:zdK k a0=some r):FnC Tryz.prog 58 [.one (.ptr 0 0)] (boxesH 0 [(zan a0)]) (Det (.agg (c_Value r.1)) (boxesH 0 [(zan r.2)])):=by
 unfold zdK at h
 refine fn_intro' 20 Tryz.func58 rfl rfl rfl (aw_seq (aw_region ?_))
 refine zaa rfl (st_alloc (cs:=[cI 0,cI 0,.val (Sv []),.val (.slice none 0 0),.val (.slice none 0 0)]) 1 rfl rfl rfl rfl rfl) (aops_nil (aw_seq ?_))
 refine aw_region (s_mv ?_)
 refine zaa rfl (ev_nilc rfl rfl) (s_fd ?_)
 refine s_ld ?_
 obtain ⟨x1,hx1,h⟩:=bind_s h
 refine zaa rfl (ev_call_v (zhW hx1) rfl [] ai rfl rfl rfl (.inl rfl) rfl) (s_mt ?_)
 iterate 3 refine s_ex ?_
 refine zaa rfl (st_alloc (cs:=[cI 0,cI 0,.val (Sv []),.val (.slice none 0 0),.val (.slice none 0 0)]) 2 rfl rfl rfl rfl rfl) (s_st [_,_,_,_,_] ?_)
 iterate 2 refine s_sa ?_
 refine aops_nil (aw_seq (aw_region ?_))
 iterate 3 refine s_mv ?_
 obtain ⟨x2,hx2,h⟩:=bind_s h
 refine zaa rfl (ev_call_b [0] (zdv hx2) rfl [] ai rfl rfl rfl rfl rfl rfl (.cons rfl .nil) rfl rfl rfl (.inl rfl) rfl) (aops_nil ?_)
 refine aw_seq (aw_region (s_ls [_,_,_,_,_] ?_))
 refine s_st [_,_,_,_,_] (aops_nil ?_)
 cases sj h
 refine aw_ret ⟨rfl,ret_b (bs:=[(zan x2)]) (rg [_,_,_,_,_]) rfl rfl rfl rfl rfl (by intro i cs h;rcases i with _|i<;>simp at h<;>(subst h;rfl)) ?_⟩
 (repeat' (first|exact .refl _|exact .nil|refine .tup ?_|refine .v ?_|refine .cons ?_ ?_|refine .agg ?_|refine .one ?_|exact .nil _|exact .emp _|refine .val ?_|refine .slc ?_ ?_|fail))
set_option maxHeartbeats 2000000 in
theorem zeJ {k:Nat} {a0:Bytecodereader} {a1:Int} {r:(List Int)×Bytecodereader} (h:zdP k a0 a1=some r):FnC Tryz.prog 93 [.one (.ptr 0 0),vI a1] (boxesH 0 [(zan a0)]) (Det (.one (CV.ls c_Int r.1)) (boxesH 0 [(zan r.2)])):=by
 unfold zdP at h
 refine fn_intro' 23 Tryz.func93 rfl rfl rfl (aw_seq (aw_region (s_sa ?_)))
 refine aops_nil (aw_seq (aw_region (s_mv ?_)))
 refine zaa rfl (ev_nilc rfl rfl) (s_fd ?_)
 refine s_ld ?_
 refine s_mv ?_
 obtain ⟨x1,hx1,h⟩:=bind_s h
 refine zaa rfl (ev_call_v (zgE hx1) rfl [] ai rfl rfl rfl (.inl rfl) rfl) (s_mt ?_)
 iterate 3 refine s_ex ?_
 iterate 3 refine s_sa ?_
 refine aops_nil (aw_seq (aw_region ?_))
 iterate 3 refine s_mv ?_
 obtain ⟨x2,hx2,h⟩:=bind_s h
 refine zaa rfl (ev_call_b [0] (zdv hx2) rfl [] ai rfl rfl rfl rfl rfl rfl (.cons rfl .nil) rfl rfl rfl (.inl rfl) rfl) (aops_nil ?_)
 refine aw_seq (aw_region (s_mv ?_))
 refine s_sa (aops_nil ?_)
 cases sj h
 refine aw_ret ⟨rfl,ret_b (bs:=[(zan x2)]) r1 rfl rfl rfl rfl rfl (by intro i cs h;rcases i with _|i<;>simp at h<;>(subst h;rfl)) ?_⟩
 (repeat' (first|exact .refl _|exact .nil|refine .tup ?_|refine .v ?_|refine .cons ?_ ?_|refine .agg ?_|refine .one ?_|exact .nil _|exact .emp _|refine .val ?_|refine .slc ?_ ?_|fail))
set_option maxHeartbeats 2000000 in
theorem zfM {k:Nat} {a0:Bytecodereader} {r:CodeMethod×Bytecodereader} (h:zeh k a0=some r):FnC Tryz.prog 59 [.one (.ptr 0 0)] (boxesH 0 [(zan a0)]) (Det (.agg (zad r.1)) (boxesH 0 [(zan r.2)])):=by
 unfold zeh at h
 refine fn_intro' 48 Tryz.func59 rfl rfl rfl (aw_seq (aw_region ?_))
 refine zaa rfl (st_alloc (cs:=[.val (Sv []),.val (.slice none 0 0),cI 0,.val (.slice none 0 0),.val (.slice none 0 0)]) 1 rfl rfl rfl rfl rfl) ?_
 refine aops_nil (aw_seq (aw_region (s_mv ?_)))
 obtain ⟨x1,hx1,h⟩:=bind_s h
 refine zaa rfl (ev_call_b [0] (zdW hx1) rfl [] ai rfl rfl rfl rfl rfl rfl (.cons rfl .nil) rfl rfl rfl (.inl rfl) rfl) (s_mv ?_)
 obtain ⟨x2,hx2,h⟩:=bind_s h
 refine zaa rfl (ev_call_b [0] (zeJ hx2) rfl [] ai rfl rfl rfl rfl rfl rfl (.cons rfl .nil) rfl rfl rfl (.inl rfl) rfl) (s_mv ?_)
 obtain ⟨x3,hx3,h⟩:=bind_s h
 refine zaa rfl (ev_call_b [0] (zeJ hx3) rfl [] ai rfl rfl rfl rfl rfl rfl (.cons rfl .nil) rfl rfl rfl (.inl rfl) rfl) (s_mv ?_)
 obtain ⟨x4,hx4,h⟩:=bind_s h
 refine zaa rfl (ev_call_b [0] (zby hx4) rfl [] ai rfl rfl rfl rfl rfl rfl (.cons rfl .nil) rfl rfl rfl (.inl rfl) rfl) ?_
 refine zaa rfl (ev_build' (out:=[_,_,_,_,_]) rfl rfl rfl rfl rfl) ?_
 refine zaa rfl (st_alloc (cs:=[.val (Sv []),.val (.slice none 0 0),cI 0,.val (.slice none 0 0),.val (.slice none 0 0)]) 2 rfl rfl rfl rfl rfl) (s_st [_,_,_,_,_] ?_)
 refine aops_nil (aw_seq (aw_seq (aw_region (s_mv ?_))))
 obtain ⟨x5,hx5,h⟩:=bind_s h
 refine zaa rfl (ev_call_b [0] (zby hx5) rfl [] ai rfl rfl rfl rfl rfl rfl (.cons rfl .nil) rfl rfl rfl (.inl rfl) rfl) (s_sa ?_)
 refine aops_nil (aw_block (zey 2 4 3 37 8 (lsEl c_Instr []) rfl rfl rfl ?_))
 obtain ⟨o6,ho6,h⟩:=bind_s h
 refine aw_loop_x (ι:={p:Nat×Int×Bytecodereader×(List Instr) // zcj k p.1 p.2.1 p.2.2.1 p.2.2.2=some o6}) (fun p=>(⟨48,[0],[(0,.one (.ptr 0 0)),(2,.one (.ptr 1 0)),(3,.one (.ptr 2 0)),(4,vI p.1.2.1)],[(0,some (.box (zan p.1.2.2.1))),(1,some (.box [.val (Sv []),.val (.slice none 0 0),cI 0,.val (.slice none 0 0),.val (.slice none 0 0)])),(2,some (.box [.val (Sv x1.1),CV.ls c_Int x2.1,cI x4.1,CV.ls c_Int x3.1,.own 3])),(3,some (.row 37 8 p.1.2.2.2.length (lsEl c_Instr p.1.2.2.2)))]⟩:ASt)) (fun p=>p.1.1) ⟨(k,x5.1,x5.2,([]:List Instr)),ho6⟩ wk 0 (ε:=(Bytecodereader×(List Instr))) (fun x=>(⟨48,[0],[(2,.one (.ptr 1 0)),(3,.one (.ptr 2 0))],[(0,some (.box (zan x.1))),(1,some (.box [.val (Sv []),.val (.slice none 0 0),cI 0,.val (.slice none 0 0),.val (.slice none 0 0)])),(2,some (.box [.val (Sv x1.1),CV.ls c_Int x2.1,cI x4.1,CV.ls c_Int x3.1,.own 3])),(3,some (.row 37 8 x.2.length (lsEl c_Instr x.2)))]⟩:ASt)) (fun x=>x=o6) (fun _ _ w h=>aw_weak w h) ?_ ?_
 ·intro x6_0 hI6
  subst hI6
  refine aw_seq (aw_region (s_ls [_,_,_,_,_] ?_))
  refine s_st [_,_,_,_,_] (aops_nil ?_)
  cases sj h
  refine aw_freeze 3 rfl ?_
  refine aw_ret ⟨rfl,ret_b (bs:=[(zan x6_0.1)]) (rg [_,_,_,_,_]) rfl rfl rfl rfl rfl (by intro i cs h;rcases i with _|i<;>simp at h<;>(subst h;rfl)) ?_⟩
  (repeat' (first|exact .refl _|exact .nil|refine .tup ?_|refine .v ?_|refine .cons ?_ ?_|refine .agg ?_|refine .one ?_|exact .nil _|exact .emp _|refine .val ?_|refine .slc ?_ ?_|fail))
 intro p6
 obtain ⟨⟨n6,s6_0,s6_1,s6_2⟩,l6⟩:=p6
 replace l6:zcj k n6 s6_0 s6_1 s6_2=some o6:=l6
 rcases n6 with _|n6
 ·exact absurd (show none=some o6 from l6) nofun
 rw [zcj] at l6
 refine aw_seq (aw_seq (aw_region (s_mv ?_)))
 refine s_cm ?_
 refine s_mv ?_
 refine aops_mid 6 (⟨48,[0],[(0,.one (.ptr 0 0)),(2,.one (.ptr 1 0)),(3,.one (.ptr 2 0)),(4,vI s6_0),(25,vB ((decide (s6_0>0))&&(!s6_1.failed)))],[(0,some (.box (zan s6_1))),(1,some (.box [.val (Sv []),.val (.slice none 0 0),cI 0,.val (.slice none 0 0),.val (.slice none 0 0)])),(2,some (.box [.val (Sv x1.1),CV.ls c_Int x2.1,cI x4.1,CV.ls c_Int x3.1,.own 3])),(3,some (.row 37 8 s6_2.length (lsEl c_Instr s6_2)))]⟩:ASt) ?_ ?_
 ·rcases bool_or ((decide (s6_0>0))) with q7|q7
  ·skip
   refine y_mv q7 ?_
   refine aops_yes rfl rfl rfl rfl q7 (ev_nilc rfl rfl) (y_fd q7 ?_)
   refine y_ld q7 ?_
   refine y_nt q7 ?_
   refine s_py q7 (aops_nil ?_)
   exact wq q7
  iterate 5 refine np q7 ?_
  refine s_pn q7 (aops_nil ?_)
  exact wq q7
 refine aops_nil ?_
 refine aw_if l6 (fun c8 l6=>?_) (fun c8 l6=>?_)
 ·refine aw_skip ?_
  obtain ⟨o9,j9,l6⟩:=bind_s l6
  refine aw_cutE o9 (fun x=>(⟨48,[0],[(0,.one (.ptr 0 0)),(2,.one (.ptr 1 0)),(3,.one (.ptr 2 0)),(4,vI s6_0)],[(0,some (.box (zan x.1))),(1,some (.box [.val (Sv []),.val (.slice none 0 0),cI 0,.val (.slice none 0 0),.val (.slice none 0 0)])),(2,some (.box [.val (Sv x1.1),CV.ls c_Int x2.1,cI x4.1,CV.ls c_Int x3.1,.own 3])),(3,some (.row 37 8 x.2.length (lsEl c_Instr x.2)))]⟩:ASt)) ?_ ?_
  ·refine aw_region (s_mv ?_)
   refine zaa rfl (ev_sub rfl rfl rfl (wrap_W _)) (s_sa (aops_nil ?_))
   exact ⟨⟨(n6,(W (s6_0 - 1)),o9.1,o9.2),l6⟩,Nat.lt_succ_self _,wk⟩
  refine aw_block (aw_seq (aw_region (s_mv ?_)))
  obtain ⟨x10,hx10,j9⟩:=bind_s j9
  refine zaa rfl (ev_call_b [0] (zby hx10) rfl [] ai rfl rfl rfl rfl rfl rfl (.cons rfl .nil) rfl rfl rfl (.inl rfl) rfl) (s_mv ?_)
  obtain ⟨x11,hx11,j9⟩:=bind_s j9
  refine zaa rfl (ev_call_b [0] (zby hx11) rfl [] ai rfl rfl rfl rfl rfl rfl (.cons rfl .nil) rfl rfl rfl (.inl rfl) rfl) (s_mv ?_)
  obtain ⟨x12,hx12,j9⟩:=bind_s j9
  refine zaa rfl (ev_call_b [0] (zby hx12) rfl [] ai rfl rfl rfl rfl rfl rfl (.cons rfl .nil) rfl rfl rfl (.inl rfl) rfl) ?_
  refine zaa rfl (ev_build' (out:=[_,_,_,_,_,_,_,_]) rfl rfl rfl rfl rfl) ?_
  refine zaa rfl (st_alloc (cs:=[cI 0,cI 0,cI 0,cI 0,cI 0,.val (Sv []),.val (.slice none 0 0),.val (.slice none 0 0)]) 4 rfl rfl rfl rfl rfl) (s_st [_,_,_,_,_,_,_,_] ?_)
  refine aops_nil (aw_seq (aw_seq (aw_region (s_fd ?_))))
  refine s_ld ?_
  refine s_cm (aops_nil ?_)
  refine aw_if j9 (fun c13 j9=>?_) (fun c13 j9=>?_)
  ·refine aw_region (s_mv ?_)
   obtain ⟨x14,hx14,j9⟩:=bind_s j9
   refine zaa rfl (ev_call_b [0] (zeB hx14) rfl [] ai rfl rfl rfl rfl rfl rfl (.cons rfl .nil) rfl rfl rfl (.inl rfl) rfl) (s_fd ?_)
   refine s_st [_,_,_,_,_,_,_,_] ?_
   refine aops_nil (aw_region (s_fd ?_))
   refine s_ld ?_
   refine s_ls [_,_,_,_,_,_,_,_] ?_
   refine zaa rfl (zac (el:=lsEl c_Instr [(⟨x10.1,x11.1,x12.1,x14.1⟩:Instr)]) 5 rfl rfl rfl rfl rfl rfl rfl rfl (lit_el c_Instr 8 [(⟨x10.1,x11.1,x12.1,x14.1⟩:Instr)] (fun _=>rfl)) rfl) ?_
   obtain ⟨g15,j9⟩:=ifp_s j9
   refine zaa rfl (st_app_ls (f:=c_Instr) s6_2 [(⟨x10.1,x11.1,x12.1,x14.1⟩:Instr)] (fun _=>rfl) rfl rfl (.inr ⟨_,_,rfl,rfl⟩) (by omega) (by omega) rfl) (s_fd ?_)
   refine s_st [_,_,_,_,_] (aops_nil ?_)
   exact jx j9 wk
  refine aw_skip (aw_region (s_fd ?_))
  refine s_ld ?_
  refine s_ls [_,_,_,_,_,_,_,_] ?_
  refine aops_weak (s':=(⟨48,[0],[(0,.one (.ptr 0 0)),(2,.one (.ptr 1 0)),(3,.one (.ptr 2 0)),(4,vI s6_0),(5,.one (.ptr 4 0)),(25,vB ((decide (s6_0>0))&&(!s6_1.failed))),(28,.one (.ptr 0 0)),(29,vI x10.1),(30,.one (.ptr 0 0)),(31,vI x11.1),(32,.one (.ptr 0 0)),(33,vI x12.1),(34,.agg [cI x10.1,cI x11.1,cI x12.1,cI 0,cI 0,.val (Sv []),.val (.slice none 0 0),.val (.slice none 0 0)]),(35,.one (.ptr 4 0)),(36,vI x10.1),(37,vB (x10.1==1)),(41,.one (.ptr 2 4)),(42,.one (.own 3)),(43,.agg [cI x10.1,cI x11.1,cI x12.1,cI 0,cI 0,.val (Sv []),CV.ls c_Int [],CV.ls c_Str []])],[(0,some (.box (zan x12.2))),(1,some (.box [.val (Sv []),.val (.slice none 0 0),cI 0,.val (.slice none 0 0),.val (.slice none 0 0)])),(2,some (.box [.val (Sv x1.1),CV.ls c_Int x2.1,cI x4.1,CV.ls c_Int x3.1,.own 3])),(3,some (.row 37 8 s6_2.length (lsEl c_Instr s6_2))),(4,some (.box [cI x10.1,cI x11.1,cI x12.1,cI 0,cI 0,.val (Sv []),.val (.slice none 0 0),.val (.slice none 0 0)]))]⟩:ASt)) wk ?_
  refine zaa rfl (zac (el:=lsEl c_Instr [(⟨x10.1,x11.1,x12.1,(⟨0,0,([]:List UInt8),[],[]⟩:Value)⟩:Instr)]) 5 rfl rfl rfl rfl rfl rfl rfl rfl (lit_el c_Instr 8 [(⟨x10.1,x11.1,x12.1,(⟨0,0,([]:List UInt8),[],[]⟩:Value)⟩:Instr)] (fun _=>rfl)) rfl) ?_
  obtain ⟨g16,j9⟩:=ifp_s j9
  refine zaa rfl (st_app_ls (f:=c_Instr) s6_2 [(⟨x10.1,x11.1,x12.1,(⟨0,0,([]:List UInt8),[],[]⟩:Value)⟩:Instr)] (fun _=>rfl) rfl rfl (.inr ⟨_,_,rfl,rfl⟩) (by omega) (by omega) rfl) (s_fd ?_)
  refine s_st [_,_,_,_,_] (aops_nil ?_)
  exact jx j9 wk
 refine aw_exit ?_
 show ∃_x:Bytecodereader×(List Instr),_=_∧Weak _ _
 exact ⟨(s6_1,s6_2),sj l6,wk⟩
set_option maxHeartbeats 2000000 in
theorem zgr {k:Nat} {a0:Bytecodereader} {r:CodeType×Bytecodereader} (h:zeE k a0=some r):FnC Tryz.prog 22 [.one (.ptr 0 0)] (boxesH 0 [(zan a0)]) (Det (.agg (zab r.1)) (boxesH 0 [(zan r.2)])):=by
 unfold zeE at h
 refine fn_intro' 55 Tryz.func22 rfl rfl rfl (aw_seq (aw_region ?_))
 refine zaa rfl (st_alloc (cs:=[.val (Sv []),.val (.slice none 0 0),.val (.slice none 0 0)]) 1 rfl rfl rfl rfl rfl) (aops_nil (aw_seq (aw_region (s_mv ?_))))
 obtain ⟨x1,hx1,h⟩:=bind_s h
 refine zaa rfl (ev_call_b [0] (zdW hx1) rfl [] ai rfl rfl rfl rfl rfl rfl (.cons rfl .nil) rfl rfl rfl (.inl rfl) rfl) ?_
 refine zaa rfl (ev_build' (out:=[_,_,_]) rfl rfl rfl rfl rfl) ?_
 refine zaa rfl (st_alloc (cs:=[.val (Sv []),.val (.slice none 0 0),.val (.slice none 0 0)]) 2 rfl rfl rfl rfl rfl) (s_st [_,_,_] ?_)
 refine aops_nil (aw_seq (aw_seq (aw_region (s_mv ?_))))
 obtain ⟨x2,hx2,h⟩:=bind_s h
 refine zaa rfl (ev_call_b [0] (zby hx2) rfl [] ai rfl rfl rfl rfl rfl rfl (.cons rfl .nil) rfl rfl rfl (.inl rfl) rfl) (s_sa ?_)
 refine aops_nil (aw_block (zey 2 1 3 53 7 (lsEl c_Field []) rfl rfl rfl ?_))
 obtain ⟨o3,ho3,h⟩:=bind_s h
 refine aw_loop_x (ι:={p:Nat×Int×Bytecodereader×(List Field) // zcz k p.1 p.2.1 p.2.2.1 p.2.2.2=some o3}) (fun p=>(⟨55,[0],[(0,.one (.ptr 0 0)),(2,.one (.ptr 1 0)),(3,.one (.ptr 2 0)),(4,vI p.1.2.1)],[(0,some (.box (zan p.1.2.2.1))),(1,some (.box [.val (Sv []),.val (.slice none 0 0),.val (.slice none 0 0)])),(2,some (.box [.val (Sv x1.1),.own 3,.val (.slice none 0 0)])),(3,some (.row 53 7 p.1.2.2.2.length (lsEl c_Field p.1.2.2.2)))]⟩:ASt)) (fun p=>p.1.1) ⟨(k,x2.1,x2.2,([]:List Field)),ho3⟩ wk 0 (ε:=(Bytecodereader×(List Field))) (fun x=>(⟨55,[0],[(0,.one (.ptr 0 0)),(2,.one (.ptr 1 0)),(3,.one (.ptr 2 0))],[(0,some (.box (zan x.1))),(1,some (.box [.val (Sv []),.val (.slice none 0 0),.val (.slice none 0 0)])),(2,some (.box [.val (Sv x1.1),.own 3,.val (.slice none 0 0)])),(3,some (.row 53 7 x.2.length (lsEl c_Field x.2)))]⟩:ASt)) (fun x=>x=o3) (fun _ _ w h=>aw_weak w h) ?_ ?_
 ·intro x3_0 hI3
  subst hI3
  refine aw_seq (aw_seq (aw_region (s_mv ?_)))
  obtain ⟨x4,hx4,h⟩:=bind_s h
  refine zaa rfl (ev_call_b [0] (zby hx4) rfl [] ai rfl rfl rfl rfl rfl rfl (.cons rfl .nil) rfl rfl rfl (.inl rfl) rfl) (s_sa ?_)
  refine aops_nil (aw_block (zey 2 2 4 40 5 (lsEl zad []) rfl rfl rfl ?_))
  obtain ⟨o5,ho5,h⟩:=bind_s h
  refine aw_loop_x (ι:={p:Nat×Int×Bytecodereader×(List CodeMethod) // zcy k p.1 p.2.1 p.2.2.1 p.2.2.2=some o5}) (fun p=>(⟨55,[0],[(0,.one (.ptr 0 0)),(2,.one (.ptr 1 0)),(3,.one (.ptr 2 0)),(5,vI p.1.2.1)],[(0,some (.box (zan p.1.2.2.1))),(1,some (.box [.val (Sv []),.val (.slice none 0 0),.val (.slice none 0 0)])),(2,some (.box [.val (Sv x1.1),.own 3,.own 4])),(3,some (.row 53 7 x3_0.2.length (lsEl c_Field x3_0.2))),(4,some (.row 40 5 p.1.2.2.2.length (lsEl zad p.1.2.2.2)))]⟩:ASt)) (fun p=>p.1.1) ⟨(k,x4.1,x4.2,([]:List CodeMethod)),ho5⟩ wk 2 (ε:=(Bytecodereader×(List CodeMethod))) (fun x=>(⟨55,[0],[(2,.one (.ptr 1 0)),(3,.one (.ptr 2 0))],[(0,some (.box (zan x.1))),(1,some (.box [.val (Sv []),.val (.slice none 0 0),.val (.slice none 0 0)])),(2,some (.box [.val (Sv x1.1),.own 3,.own 4])),(3,some (.row 53 7 x3_0.2.length (lsEl c_Field x3_0.2))),(4,some (.row 40 5 x.2.length (lsEl zad x.2)))]⟩:ASt)) (fun x=>x=o5) (fun _ _ w h=>aw_weak w h) ?_ ?_
  ·intro x5_0 hI5
   subst hI5
   refine aw_seq (aw_region (s_ls [_,_,_] ?_))
   refine s_st [_,_,_] (aops_nil ?_)
   cases sj h
   refine aw_freeze 3 rfl (aw_freeze 4 rfl ?_)
   refine aw_ret ⟨rfl,ret_b (bs:=[(zan x5_0.1)]) (rg [_,_,_]) rfl rfl rfl rfl rfl (by intro i cs h;rcases i with _|i<;>simp at h<;>(subst h;rfl)) ?_⟩
   (repeat' (first|exact .refl _|exact .nil|refine .tup ?_|refine .v ?_|refine .cons ?_ ?_|refine .agg ?_|refine .one ?_|exact .nil _|exact .emp _|refine .val ?_|refine .slc ?_ ?_|fail))
  intro p5
  obtain ⟨⟨n5,s5_0,s5_1,s5_2⟩,l5⟩:=p5
  replace l5:zcy k n5 s5_0 s5_1 s5_2=some o5:=l5
  rcases n5 with _|n5
  ·exact absurd (show none=some o5 from l5) nofun
  rw [zcy] at l5
  refine aw_seq (aw_seq (aw_region (s_mv ?_)))
  refine s_cm ?_
  refine s_mv ?_
  refine aops_mid 6 (⟨55,[0],[(0,.one (.ptr 0 0)),(2,.one (.ptr 1 0)),(3,.one (.ptr 2 0)),(5,vI s5_0),(44,vB ((decide (s5_0>0))&&(!s5_1.failed)))],[(0,some (.box (zan s5_1))),(1,some (.box [.val (Sv []),.val (.slice none 0 0),.val (.slice none 0 0)])),(2,some (.box [.val (Sv x1.1),.own 3,.own 4])),(3,some (.row 53 7 x3_0.2.length (lsEl c_Field x3_0.2))),(4,some (.row 40 5 s5_2.length (lsEl zad s5_2)))]⟩:ASt) ?_ ?_
  ·rcases bool_or ((decide (s5_0>0))) with q6|q6
   ·skip
    refine y_mv q6 ?_
    refine aops_yes rfl rfl rfl rfl q6 (ev_nilc rfl rfl) (y_fd q6 ?_)
    refine y_ld q6 ?_
    refine y_nt q6 ?_
    refine s_py q6 (aops_nil ?_)
    exact wq q6
   iterate 5 refine np q6 ?_
   refine s_pn q6 (aops_nil ?_)
   exact wq q6
  refine aops_nil ?_
  refine aw_if l5 (fun c7 l5=>?_) (fun c7 l5=>?_)
  ·refine aw_skip (aw_seq (aw_block ?_))
   obtain ⟨x8,hx8,l5⟩:=bind_s l5
   obtain ⟨g9,l5⟩:=ifp_s l5
   apply zhe 5 [(3,[2])] ((⟨[],.one (.ptr 2 _)⟩:Add)::⟨[],.one (.own 4)⟩::⟨[],.one (.ptr 0 _)⟩::⟨[(0,some (.box (zan x8.2)))],.agg (zad x8.1)⟩::⟨[],.one (CV.ls zad [x8.1])⟩::[]) (by decide) rfl (by decide +kernel) ?hk14x ?hf14x ?ho14x ?hr14x
   case ho14x =>
    refine ⟨⟨[],(by decide +kernel),.inr ⟨(by decide +kernel),fun S hle hfr=>?_⟩⟩,?_⟩
    ·exact .inl ⟨w0,ev_field (hle.e rfl) rfl (hle.d rfl)⟩
    refine ⟨⟨0::[],(by decide +kernel),.inr ⟨(by decide +kernel),fun S hle hfr=>?_⟩⟩,?_⟩
    ·exact .inl ⟨w0,ev_load (hle.e rfl) (hle.heap _ _ rfl) rfl (hle.d rfl)⟩
    refine ⟨⟨[],(by decide +kernel),.inl ⟨(by decide +kernel),fun S hle hfr0=>?_⟩⟩,?_⟩
    ·exact .inl ⟨w0,st_move (hle.e rfl) (hle.d rfl)⟩
    refine ⟨⟨2::[],(by decide +kernel),.inl ⟨(by decide +kernel),fun S hle hfr0=>?_⟩⟩,?_⟩
    ·exact .inl ⟨w0,ev_call_b [0] (zfM hx8) (map_ev (.cons (hle.e rfl) (.nil))) [] (by repeat' (first|exact .nil|refine .cons ?_ ?_|refine .one ?_|refine .agg ?_|exact .mk rfl|exact .lend (hle.heap _ _ rfl) (by simp)|exact .le (.nil _) rfl|exact .le (.emp _) rfl|exact .le (.any _) rfl|fail)) rfl rfl rfl rfl rfl rfl (.cons (hle.heap _ _ rfl) .nil) rfl rfl rfl (.inl rfl) (hle.d rfl)⟩
    refine ⟨⟨3::2::[],(by decide +kernel),.inl ⟨(by decide +kernel),fun S hle hfr0=>?_⟩⟩,?_⟩
    ·exact .inl ⟨w0,zek (el:=lsEl zad [x8.1]) (map_ev2 (.cons (hle.e rfl) (.nil))) rfl rfl rfl rfl rfl rfl (lit_el zad 5 [x8.1] (fun _=>rfl)) (hle.d rfl)⟩
    exact trivial
   case hk14x=>rfl
   case hf14x=>rfl
   refine zaa rfl (st_app_ls (f:=zad) s5_2 [x8.1] (fun _=>rfl) rfl rfl (.inl rfl) (by omega) (by omega) rfl) (s_fd ?_)
   refine s_st [_,_,_] ?_
   refine aops_nil (aw_region (s_mv ?_))
   refine zaa rfl (ev_sub rfl rfl rfl (wrap_W _)) (s_sa (aops_nil ?_))
   exact ⟨⟨(n5,(W (s5_0 - 1)),x8.2,(s5_2++[x8.1])),l5⟩,Nat.lt_succ_self _,wk⟩
  refine aw_exit ?_
  show ∃_x:Bytecodereader×(List CodeMethod),_=_∧Weak _ _
  exact ⟨(s5_1,s5_2),sj l5,wk⟩
 intro p3
 obtain ⟨⟨n3,s3_0,s3_1,s3_2⟩,l3⟩:=p3
 replace l3:zcz k n3 s3_0 s3_1 s3_2=some o3:=l3
 rcases n3 with _|n3
 ·exact absurd (show none=some o3 from l3) nofun
 rw [zcz] at l3
 refine aw_seq (aw_seq (aw_region (s_mv ?_)))
 refine s_cm ?_
 refine s_mv ?_
 refine aops_mid 6 (⟨55,[0],[(0,.one (.ptr 0 0)),(2,.one (.ptr 1 0)),(3,.one (.ptr 2 0)),(4,vI s3_0),(19,vB ((decide (s3_0>0))&&(!s3_1.failed)))],[(0,some (.box (zan s3_1))),(1,some (.box [.val (Sv []),.val (.slice none 0 0),.val (.slice none 0 0)])),(2,some (.box [.val (Sv x1.1),.own 3,.val (.slice none 0 0)])),(3,some (.row 53 7 s3_2.length (lsEl c_Field s3_2)))]⟩:ASt) ?_ ?_
 ·rcases bool_or ((decide (s3_0>0))) with q10|q10
  ·skip
   refine y_mv q10 ?_
   refine aops_yes rfl rfl rfl rfl q10 (ev_nilc rfl rfl) (y_fd q10 ?_)
   refine y_ld q10 ?_
   refine y_nt q10 ?_
   refine s_py q10 (aops_nil ?_)
   exact wq q10
  iterate 5 refine np q10 ?_
  refine s_pn q10 (aops_nil ?_)
  exact wq q10
 refine aops_nil ?_
 refine aw_if l3 (fun c11 l3=>?_) (fun c11 l3=>?_)
 ·refine aw_skip (aw_seq (aw_block ?_))
  obtain ⟨x12,hx12,l3⟩:=bind_s l3
  obtain ⟨x13,hx13,l3⟩:=bind_s l3
  obtain ⟨x14,hx14,l3⟩:=bind_s l3
  obtain ⟨g15,l3⟩:=ifp_s l3
  apply zhe 10 [(3,[2]),(5,[4,3,2]),(7,[6,5,4,3,2])] ((⟨[],.one (.ptr 2 _)⟩:Add)::⟨[],.one (.own 3)⟩::⟨[],.one (.ptr 0 _)⟩::⟨[(0,some (.box (zan x12.2)))],.one (.val (Sv x12.1))⟩::⟨[],.one (.ptr 0 _)⟩::⟨[(0,some (.box (zan x13.2)))],vI x13.1⟩::⟨[],.one (.ptr 0 _)⟩::⟨[(0,some (.box (zan x14.2)))],.agg (c_Value x14.1)⟩::⟨[],.agg ([.val (Sv x12.1),cI x13.1]++c_Value x14.1)⟩::⟨[],.one (CV.ls c_Field [(⟨x12.1,x13.1,x14.1⟩:Field)])⟩::[]) (by decide) rfl (by decide +kernel) ?hk16x ?hf16x ?ho16x ?hr16x
  case ho16x =>
   refine ⟨⟨[],(by decide +kernel),.inr ⟨(by decide +kernel),fun S hle hfr=>?_⟩⟩,?_⟩
   ·exact .inl ⟨w0,ev_field (hle.e rfl) rfl (hle.d rfl)⟩
   refine ⟨⟨0::[],(by decide +kernel),.inr ⟨(by decide +kernel),fun S hle hfr=>?_⟩⟩,?_⟩
   ·exact .inl ⟨w0,ev_load (hle.e rfl) (hle.heap _ _ rfl) rfl (hle.d rfl)⟩
   refine ⟨⟨[],(by decide +kernel),.inl ⟨(by decide +kernel),fun S hle hfr0=>?_⟩⟩,?_⟩
   ·exact .inl ⟨w0,st_move (hle.e rfl) (hle.d rfl)⟩
   refine ⟨⟨2::[],(by decide +kernel),.inl ⟨(by decide +kernel),fun S hle hfr0=>?_⟩⟩,?_⟩
   ·exact .inl ⟨w0,ev_call_b [0] (zdW hx12) (map_ev (.cons (hle.e rfl) (.nil))) [] (by repeat' (first|exact .nil|refine .cons ?_ ?_|refine .one ?_|refine .agg ?_|exact .mk rfl|exact .lend (hle.heap _ _ rfl) (by simp)|exact .le (.nil _) rfl|exact .le (.emp _) rfl|exact .le (.any _) rfl|fail)) rfl rfl rfl rfl rfl rfl (.cons (hle.heap _ _ rfl) .nil) rfl rfl rfl (.inl rfl) (hle.d rfl)⟩
   refine ⟨⟨[],(by decide +kernel),.inr ⟨(by decide +kernel),fun S hle hfr=>?_⟩⟩,?_⟩
   ·exact .inl ⟨w0,st_move (hle.e rfl) (hle.d rfl)⟩
   refine ⟨⟨4::3::2::[],(by decide +kernel),.inl ⟨(by decide +kernel),fun S hle hfr0=>?_⟩⟩,?_⟩
   ·exact .inl ⟨w0,ev_call_b [0] (zby hx13) (map_ev (.cons (hle.e rfl) (.cons (hle.e rfl) (.nil)))) [] (by repeat' (first|exact .nil|refine .cons ?_ ?_|refine .one ?_|refine .agg ?_|exact .mk rfl|exact .lend (hle.heap _ _ rfl) (by simp)|exact .le (.nil _) rfl|exact .le (.emp _) rfl|exact .le (.any _) rfl|fail)) rfl rfl rfl rfl rfl rfl (.cons (hle.heap _ _ rfl) .nil) rfl rfl rfl (.inl rfl) (hle.d rfl)⟩
   refine ⟨⟨[],(by decide +kernel),.inr ⟨(by decide +kernel),fun S hle hfr=>?_⟩⟩,?_⟩
   ·exact .inl ⟨w0,st_move (hle.e rfl) (hle.d rfl)⟩
   refine ⟨⟨6::5::4::3::2::[],(by decide +kernel),.inl ⟨(by decide +kernel),fun S hle hfr0=>?_⟩⟩,?_⟩
   ·exact .inl ⟨w0,ev_call_b [0] (zeB hx14) (map_ev (.cons (hle.e rfl) (.nil))) [] (by repeat' (first|exact .nil|refine .cons ?_ ?_|refine .one ?_|refine .agg ?_|exact .mk rfl|exact .lend (hle.heap _ _ rfl) (by simp)|exact .le (.nil _) rfl|exact .le (.emp _) rfl|exact .le (.any _) rfl|fail)) rfl rfl rfl rfl rfl rfl (.cons (hle.heap _ _ rfl) .nil) rfl rfl rfl (.inl rfl) (hle.d rfl)⟩
   refine ⟨⟨3::5::7::2::4::6::[],(by decide +kernel),.inl ⟨(by decide +kernel),fun S hle hfr0=>?_⟩⟩,?_⟩
   ·exact .inl ⟨w0,ev_build' (out:=[_,_,_,_,_,_,_]) (map_ev2 (.cons (hle.e rfl) (.cons (hle.e rfl) (.cons (hle.e rfl) (.nil))))) rfl rfl rfl (hle.d rfl)⟩
   refine ⟨⟨8::3::5::7::2::4::6::[],(by decide +kernel),.inl ⟨(by decide +kernel),fun S hle hfr0=>?_⟩⟩,?_⟩
   ·exact .inl ⟨w0,zek (el:=lsEl c_Field [(⟨x12.1,x13.1,x14.1⟩:Field)]) (map_ev2 (.cons (hle.e rfl) (.nil))) rfl rfl rfl rfl rfl rfl (lit_el c_Field 7 [(⟨x12.1,x13.1,x14.1⟩:Field)] (fun _=>rfl)) (hle.d rfl)⟩
   exact trivial
  case hk16x=>rfl
  case hf16x=>rfl
  refine zaa rfl (st_app_ls (f:=c_Field) s3_2 [(⟨x12.1,x13.1,x14.1⟩:Field)] (fun _=>rfl) rfl rfl (.inl rfl) (by omega) (by omega) rfl) (s_fd ?_)
  refine s_st [_,_,_] ?_
  refine aops_nil (aw_region (s_mv ?_))
  refine zaa rfl (ev_sub rfl rfl rfl (wrap_W _)) (s_sa (aops_nil ?_))
  exact ⟨⟨(n3,(W (s3_0 - 1)),x14.2,(s3_2++[(⟨x12.1,x13.1,x14.1⟩:Field)])),l3⟩,Nat.lt_succ_self _,wk⟩
 refine aw_exit ?_
 show ∃_x:Bytecodereader×(List Field),_=_∧Weak _ _
 exact ⟨(s3_1,s3_2),sj l3,wk⟩
end Md
end Go.Proofs.YtclffekkjfhpdaaGreat

