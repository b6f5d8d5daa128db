import Derived.Test.YtclffekkjfhpdaaGreatQAbsSw
import Derived.Test.YtclffekkjfhpdaaGreatQMo
import Derived.Test.YtclffekkjfhpdaaGreatQTy
import Derived.Test.YtclffekkjfhpdaaGreatQAbsS
import Derived.Test.YtclffekkjfhpdaaGreatQCodeG
namespace Go.Proofs.YtclffekkjfhpdaaGreat
open Go.ChangeShapes Go.WideShapes Go.RowKit
open Abs
set_option linter.unusedVariables false
set_option linter.unusedSimpArgs false
set_option maxRecDepth 10000
namespace Md
set_option maxHeartbeats 2000000 in
theorem zfD {k:Nat} {a0:Code} {a1:List UInt8} {r:Int×Bool} (h:zcR k a0 a1=some r):FnC Tryz.prog 47 [.agg [CV.ls zab a0.Types],.one (.val (Sv a1))] [] (Det (.tup [vI r.1,vB r.2]) []):=by
 unfold zcR at h
 refine fn_intro' 23 Tryz.func47 rfl rfl rfl (aw_seq (aw_region (zaa rfl (st_box 0 rfl rfl rfl rfl) ?_)))
 iterate 2 refine s_sa ?_
 refine aops_nil (aw_seq (aw_seq (aw_region (s_sa (aops_nil (aw_block ?_))))))
 obtain ⟨o1,ho1,h⟩:=bind_s h
 refine aw_loop_x (ι:={p:Nat×Nat // zaO k a0 a1 p.1 p.2=some o1}) (fun p=>(⟨23,[],[(1,.one (.val (Sv a1))),(2,.one (.ptr 0 0)),(6,vI ((p.1.2:Nat):Int))],[(0,some (.box [CV.ls zab a0.Types]))]⟩:ASt)) (fun p=>p.1.1) ⟨(k,0),ho1⟩ wk 0 (ε:=Unit) (fun x=>(⟨23,[],[],[]⟩:ASt)) (fun x=>Sum.inl x=o1) (fun _ _ w h=>aw_weak w h) ?_ ?_
 ·intro x1_0 hI1
  subst hI1
  replace h:=onS_l h
  refine aw_seq (aw_region ?_)
  iterate 2 refine s_sa ?_
  refine aops_nil ?_
  cases sj h
  exact aw_ret ⟨rfl,rv (rn (.cons o1 (.cons o1 .nil)))⟩
 intro p1
 obtain ⟨⟨n1,s1_0⟩,l1⟩:=p1
 replace l1:zaO k a0 a1 n1 s1_0=some o1:=l1
 rcases n1 with _|n1
 ·exact absurd (show none=some o1 from l1) nofun
 rw [zaO] at l1
 refine aw_seq (aw_seq (aw_region (s_mv ?_)))
 refine s_fd ?_
 refine s_ld ?_
 refine s_ln ?_
 refine s_cm (aops_nil ?_)
 refine aw_if l1 (fun c2 l1=>?_) (fun c2 l1=>?_)
 ·refine aw_skip (aw_seq (aw_block (aw_seq (aw_region (s_fd ?_)))))
  refine s_ld ?_
  refine s_mv ?_
  obtain ⟨g3,l1⟩:=ifp_s l1
  refine zaa rfl (zaf rfl rfl rfl g3 rfl rfl) (zaa rfl (zaM rfl rfl rfl) (zaa rfl (zas rfl rfl rfl) (s_mv ?_)))
  refine zaa rfl (st_str_eq rfl rfl rfl) (aops_nil ?_)
  refine aw_if l1 (fun c4 l1=>?_) (fun c4 l1=>?_)
  ·refine aw_seq (aw_region (s_mv ?_))
   iterate 2 refine s_sa ?_
   refine aops_nil ?_
   cases sj l1
   replace h:=onS_r h
   cases sj h
   exact aw_ret ⟨rfl,rv (rn (.cons o1 (.cons o1 .nil)))⟩
  refine aw_skip (aw_region (s_mv ?_))
  obtain ⟨g5,l1⟩:=ifp_s l1
  refine zaa rfl (ev_add rfl rfl rfl (nat_add g5)) (s_sa (aops_nil ?_))
  exact ⟨⟨(n1,(s1_0+1)),l1⟩,Nat.lt_succ_self _,wk⟩
 refine aw_exit ?_
 show ∃_x:Unit,_=_∧Weak _ _
 exact ⟨(),sj l1,wk⟩
set_option maxHeartbeats 2000000 in
theorem zfZ {k:Nat} {a0:UInt8} {r:Bool} (h:zdL k a0=some r):FnC Tryz.prog 106 [.one (.val (.int .u8 (a0.toNat:Int)))] [] (Det (vB r) []):=by
 unfold zdL at h
 refine fn_intro' 21 Tryz.func106 rfl rfl rfl (aw_seq (aw_region (s_sa ?_)))
 refine aops_nil (aw_seq (aw_region (s_mv ?_)))
 refine s_cm ?_
 refine s_mv ?_
 refine bo 3 ((decide ((a0.toNat:Int)≥97))&&(decide ((a0.toNat:Int)≤122))) ?_
 refine s_mv ?_
 refine aops_mid 7 (⟨21,[],[(0,.one (.val (.int .u8 (a0.toNat:Int)))),(2,vB false),(16,vB (((decide ((a0.toNat:Int)≥97))&&(decide ((a0.toNat:Int)≤122)))||((decide ((a0.toNat:Int)≥65))&&(decide ((a0.toNat:Int)≤90)))))],[]⟩:ASt) ?_ ?_
 ·rcases bool_or (((decide ((a0.toNat:Int)≥97))&&(decide ((a0.toNat:Int)≤122)))) with q2|q2
  ·skip
   iterate 3 refine np q2 ?_
   refine aops_und rfl rfl rfl rfl rfl (aops_und rfl rfl rfl rfl rfl (np q2 ?_))
   refine s_py q2 (aops_nil ?_)
   exact wq q2
  refine y_mv q2 ?_
  refine y_cm q2 ?_
  refine y_mv q2 ?_
  refine aops_mid 3 (⟨21,[],[(0,.one (.val (.int .u8 (a0.toNat:Int)))),(2,vB false),(9,vB ((decide ((a0.toNat:Int)≥97))&&(decide ((a0.toNat:Int)≤122)))),(15,vB ((decide ((a0.toNat:Int)≥65))&&(decide ((a0.toNat:Int)≤90))))],[]⟩:ASt) ?_ ?_
  ·rcases bool_or ((decide ((a0.toNat:Int)≥65))) with q3|q3
   ·skip
    refine y_mv q3 ?_
    refine y_cm q3 ?_
    refine aops_yes rfl rfl rfl rfl q2 (zau rfl (by first|rfl|exact q3) rfl rfl) (aops_nil ?_)
    exact wq q3
   iterate 2 refine np q3 ?_
   refine aops_yes rfl rfl rfl rfl q2 (zaz rfl (by first|rfl|exact q3) rfl rfl) (aops_nil ?_)
   exact wq q3
  refine s_pn q2 (aops_nil ?_)
  exact wq q2
 refine s_mv ?_
 refine bo 3 ((((decide ((a0.toNat:Int)≥97))&&(decide ((a0.toNat:Int)≤122)))||((decide ((a0.toNat:Int)≥65))&&(decide ((a0.toNat:Int)≤90))))||((a0.toNat:Int)==95)) ?_
 refine s_sa (aops_nil ?_)
 cases sj h
 exact aw_ret ⟨rfl,rv r1⟩
set_option maxHeartbeats 2000000 in
theorem zeH {k:Nat} {a0:UInt8} {r:Bool} (h:zdb k a0=some r):FnC Tryz.prog 83 [.one (.val (.int .u8 (a0.toNat:Int)))] [] (Det (vB r) []):=by
 unfold zdb at h
 refine fn_intro' 9 Tryz.func83 rfl rfl rfl (aw_seq (aw_region (s_sa ?_)))
 refine aops_nil (aw_seq (aw_region (s_mv ?_)))
 refine s_cm ?_
 refine s_mv ?_
 refine bo 3 ((decide ((a0.toNat:Int)≥48))&&(decide ((a0.toNat:Int)≤57))) ?_
 refine s_sa (aops_nil ?_)
 cases sj h
 exact aw_ret ⟨rfl,rv r1⟩
set_option maxHeartbeats 2000000 in
theorem zgs {k:Nat} {a0:UInt8} {r:Bool} (h:zdD k a0=some r):FnC Tryz.prog 82 [.one (.val (.int .u8 (a0.toNat:Int)))] [] (Det (vB r) []):=by
 unfold zdD at h
 refine fn_intro' 9 Tryz.func82 rfl rfl rfl (aw_seq (aw_region (s_sa ?_)))
 refine aops_nil (aw_seq (aw_region (s_mv ?_)))
 obtain ⟨x1,hx1,h⟩:=bind_s h
 refine zaa rfl (ev_call_v (zfZ hx1) rfl [] ai rfl rfl rfl (.inl rfl) rfl) (s_mv ?_)
 obtain ⟨o2,j2,h⟩:=bind_s h
 refine aops_cutE 3 o2 (fun x2=>(⟨9,[],[(2,vB false),(8,vB x2)],[]⟩:ASt)) ?_ ?_
 ·refine s_sa (aops_nil ?_)
  cases sj h
  exact aw_ret ⟨rfl,rv r1⟩
 rcases co j2 with ⟨q2,j2⟩|⟨q2,j2⟩
 ·iterate 2 refine np q2 ?_
  refine s_py q2 (aops_nil ?_)
  exact jx j2 wk
 refine y_mv q2 ?_
 obtain ⟨x3,hx3,j2⟩:=bind_s j2
 refine aops_yes rfl rfl rfl rfl q2 (ev_call_v (zeH hx3) rfl [] ai rfl rfl rfl (.inl rfl) rfl) (s_pn q2 (aops_nil ?_))
 exact jx j2 wk
set_option maxHeartbeats 2000000 in
theorem zfp {k:Nat} {a0:List UInt8} {r:Bool} (h:zcJ k a0=some r):FnC Tryz.prog 84 [.one (.val (Sv a0))] [] (Det (vB r) []):=by
 unfold zcJ at h
 refine fn_intro' 26 Tryz.func84 rfl rfl rfl (aw_seq (aw_region (s_sa ?_)))
 refine aops_nil (aw_seq (aw_seq (aw_region (s_mv ?_))))
 refine aops_nil (aw_block (aw_seq (aw_seq (aw_region (zaa rfl (st_str_eq rfl rfl rfl) (s_sa (aops_nil ?_)))))))
 refine aw_if h (fun c1 h=>?_) (fun c1 h=>?_)
 ·refine aw_skip (aw_yes rfl (c1) (aw_seq (aw_region (s_sa (aops_nil ?_)))))
  cases sj h
  exact aw_ret ⟨rfl,rv r1⟩
 refine aw_seq (aw_region (zaa rfl (st_str_eq rfl rfl rfl) (s_sa (aops_nil ?_))))
 refine aw_if h (fun c2 h=>?_) (fun c2 h=>?_)
 ·refine aw_skip (aw_yes rfl (c2) (aw_seq (aw_region (s_sa (aops_nil ?_)))))
  cases sj h
  exact aw_ret ⟨rfl,rv r1⟩
 refine aw_seq (aw_region (zaa rfl (st_str_eq rfl rfl rfl) (s_sa (aops_nil ?_))))
 refine aw_if h (fun c3 h=>?_) (fun c3 h=>?_)
 ·refine aw_skip (aw_yes rfl (c3) (aw_seq (aw_region (s_sa (aops_nil ?_)))))
  cases sj h
  exact aw_ret ⟨rfl,rv r1⟩
 refine aw_seq (aw_region (zaa rfl (st_str_eq rfl rfl rfl) (s_sa (aops_nil ?_))))
 refine aw_if h (fun c4 h=>?_) (fun c4 h=>?_)
 ·refine aw_skip (aw_yes rfl (c4) (aw_seq (aw_region (s_sa (aops_nil ?_)))))
  cases sj h
  exact aw_ret ⟨rfl,rv r1⟩
 refine aw_seq (aw_region (zaa rfl (st_str_eq rfl rfl rfl) (s_sa (aops_nil ?_))))
 refine aw_if h (fun c5 h=>?_) (fun c5 h=>?_)
 ·refine aw_skip (aw_yes rfl (c5) (aw_seq (aw_region (s_sa (aops_nil ?_)))))
  cases sj h
  exact aw_ret ⟨rfl,rv r1⟩
 refine aw_seq (aw_region (zaa rfl (st_str_eq rfl rfl rfl) (s_sa (aops_nil ?_))))
 refine aw_if h (fun c6 h=>?_) (fun c6 h=>?_)
 ·refine aw_skip (aw_yes rfl (c6) (aw_seq (aw_region (s_sa (aops_nil ?_)))))
  cases sj h
  exact aw_ret ⟨rfl,rv r1⟩
 refine aw_seq (aw_region (zaa rfl (st_str_eq rfl rfl rfl) (s_sa (aops_nil ?_))))
 refine aw_if h (fun c7 h=>?_) (fun c7 h=>?_)
 ·refine aw_skip (aw_yes rfl (c7) (aw_seq (aw_region (s_sa (aops_nil ?_)))))
  cases sj h
  exact aw_ret ⟨rfl,rv r1⟩
 refine aw_seq (aw_region (zaa rfl (st_str_eq rfl rfl rfl) (s_sa (aops_nil ?_))))
 refine aw_if h (fun c8 h=>?_) (fun c8 h=>?_)
 ·refine aw_skip (aw_yes rfl (c8) (aw_seq (aw_region (s_sa (aops_nil ?_)))))
  cases sj h
  exact aw_ret ⟨rfl,rv r1⟩
 refine aw_seq (aw_region (zaa rfl (st_str_eq rfl rfl rfl) (s_sa (aops_nil ?_))))
 refine aw_if h (fun c9 h=>?_) (fun c9 h=>?_)
 ·refine aw_skip (aw_yes rfl (c9) (aw_seq (aw_region (s_sa (aops_nil ?_)))))
  cases sj h
  exact aw_ret ⟨rfl,rv r1⟩
 refine aw_seq (aw_region (zaa rfl (st_str_eq rfl rfl rfl) (s_sa (aops_nil ?_))))
 refine aw_if h (fun c10 h=>?_) (fun c10 h=>?_)
 ·refine aw_skip (aw_yes rfl (c10) (aw_seq (aw_region (s_sa (aops_nil ?_)))))
  cases sj h
  exact aw_ret ⟨rfl,rv r1⟩
 refine aw_seq (aw_region (zaa rfl (st_str_eq rfl rfl rfl) (s_sa (aops_nil ?_))))
 refine aw_if h (fun c11 h=>?_) (fun c11 h=>?_)
 ·refine aw_skip (aw_yes rfl (c11) (aw_seq (aw_region (s_sa (aops_nil ?_)))))
  cases sj h
  exact aw_ret ⟨rfl,rv r1⟩
 refine aw_seq (aw_region (zaa rfl (st_str_eq rfl rfl rfl) (s_sa (aops_nil ?_))))
 refine aw_if h (fun c12 h=>?_) (fun c12 h=>?_)
 ·refine aw_skip (aw_yes rfl (c12) (aw_seq (aw_region (s_sa (aops_nil ?_)))))
  cases sj h
  exact aw_ret ⟨rfl,rv r1⟩
 refine aw_seq (aw_region (zaa rfl (st_str_eq rfl rfl rfl) (s_sa (aops_nil ?_))))
 refine aw_if h (fun c13 h=>?_) (fun c13 h=>?_)
 ·refine aw_skip (aw_yes rfl (c13) (aw_seq (aw_region (s_sa (aops_nil ?_)))))
  cases sj h
  exact aw_ret ⟨rfl,rv r1⟩
 refine aw_seq (aw_region (zaa rfl (st_str_eq rfl rfl rfl) (s_sa (aops_nil ?_))))
 refine aw_if h (fun c14 h=>?_) (fun c14 h=>?_)
 ·refine aw_skip (aw_yes rfl (c14) (aw_seq (aw_region (s_sa (aops_nil ?_)))))
  cases sj h
  exact aw_ret ⟨rfl,rv r1⟩
 refine aw_seq (aw_region (zaa rfl (st_str_eq rfl rfl rfl) (s_sa (aops_nil ?_))))
 refine aw_if h (fun c15 h=>?_) (fun c15 h=>?_)
 ·refine aw_skip (aw_yes rfl (c15) (aw_seq (aw_region (s_sa (aops_nil ?_)))))
  cases sj h
  exact aw_ret ⟨rfl,rv r1⟩
 refine aw_seq (aw_region (zaa rfl (st_str_eq rfl rfl rfl) (s_sa (aops_nil ?_))))
 refine aw_if h (fun c16 h=>?_) (fun c16 h=>?_)
 ·refine aw_skip (aw_yes rfl (c16) (aw_seq (aw_region (s_sa (aops_nil ?_)))))
  cases sj h
  exact aw_ret ⟨rfl,rv r1⟩
 refine aw_seq (aw_region (zaa rfl (st_str_eq rfl rfl rfl) (s_sa (aops_nil ?_))))
 refine aw_if h (fun c17 h=>?_) (fun c17 h=>?_)
 ·refine aw_skip (aw_yes rfl (c17) (aw_seq (aw_region (s_sa (aops_nil ?_)))))
  cases sj h
  exact aw_ret ⟨rfl,rv r1⟩
 refine aw_seq (aw_region (zaa rfl (st_str_eq rfl rfl rfl) (s_sa (aops_nil ?_))))
 refine aw_if h (fun c18 h=>?_) (fun c18 h=>?_)
 ·refine aw_skip (aw_yes rfl (c18) (aw_seq (aw_region (s_sa (aops_nil ?_)))))
  cases sj h
  exact aw_ret ⟨rfl,rv r1⟩
 refine aw_seq (aw_region (zaa rfl (st_str_eq rfl rfl rfl) (s_sa (aops_nil ?_))))
 refine aw_if h (fun c19 h=>?_) (fun c19 h=>?_)
 ·refine aw_skip (aw_yes rfl (c19) (aw_seq (aw_region (s_sa (aops_nil ?_)))))
  cases sj h
  exact aw_ret ⟨rfl,rv r1⟩
 refine aw_seq (aw_region (zaa rfl (st_str_eq rfl rfl rfl) (s_sa (aops_nil ?_))))
 refine aw_if h (fun c20 h=>?_) (fun c20 h=>?_)
 ·refine aw_skip (aw_yes rfl (c20) (aw_seq (aw_region (s_sa (aops_nil ?_)))))
  cases sj h
  exact aw_ret ⟨rfl,rv r1⟩
 refine aw_region (zaa rfl (st_str_eq rfl rfl rfl) (s_sa (aops_nil ?_)))
 refine aw_if h (fun c21 h=>?_) (fun c21 h=>?_)
 ·refine aw_seq (aw_region (s_sa (aops_nil ?_)))
  cases sj h
  exact aw_ret ⟨rfl,rv r1⟩
 refine aw_skip (aw_seq (aw_region (s_sa (aops_nil ?_))))
 cases sj h
 exact aw_ret ⟨rfl,rv r1⟩
set_option maxHeartbeats 2000000 in
theorem zbl {k:Nat} {a0:List UInt8} {r:Bool} (h:zcr k a0=some r):FnC Tryz.prog 48 [.one (.val (Sv a0))] [] (Det (vB r) []):=by
 unfold zcr at h
 refine fn_intro' 34 Tryz.func48 rfl rfl rfl (aw_seq (aw_region (s_sa ?_)))
 refine aops_nil (aw_seq (aw_seq (aw_region (s_sa (aops_nil (aw_block ?_))))))
 obtain ⟨o1,ho1,h⟩:=bind_s h
 refine aw_loop_x (ι:={p:Nat×Nat // zaQ k a0 p.1 p.2=some o1}) (fun p=>(⟨34,[],[(0,.one (.val (Sv a0))),(3,vI ((p.1.2:Nat):Int))],[]⟩:ASt)) (fun p=>p.1.1) ⟨(k,0),ho1⟩ wk 0 (ε:=Unit) (fun x=>(⟨34,[],[(0,.one (.val (Sv a0)))],[]⟩:ASt)) (fun x=>Sum.inl x=o1) (fun _ _ w h=>aw_weak w h) ?_ ?_
 ·intro x1_0 hI1
  subst hI1
  replace h:=onS_l h
  refine aw_seq (aw_region (s_mv ?_))
  refine zaa rfl (zdg rfl rfl) (s_cm ?_)
  refine s_mv ?_
  refine aops_mid 4 (⟨34,[],[(0,.one (.val (Sv a0))),(22,vB ((decide (((a0.length:Nat):Int)≥1))&&(decide (((a0.length:Nat):Int)≤32))))],[]⟩:ASt) ?_ ?_
  ·rcases bool_or ((decide (((a0.length:Nat):Int)≥1))) with q2|q2
   ·skip
    refine y_mv q2 ?_
    refine aops_yes rfl rfl rfl rfl q2 (zdg rfl rfl) (y_cm q2 ?_)
    refine s_py q2 (aops_nil ?_)
    exact wq q2
   iterate 3 refine np q2 ?_
   refine s_pn q2 (aops_nil ?_)
   exact wq q2
  refine s_mv ?_
  obtain ⟨o3,j3,h⟩:=bind_s h
  refine aops_cutE 5 o3 (fun x3=>(⟨34,[],[(0,.one (.val (Sv a0))),(28,vB x3)],[]⟩:ASt)) ?_ ?_
  ·refine s_mv ?_
   obtain ⟨o4,j4,h⟩:=bind_s h
   refine aops_cutE 4 o4 (fun x4=>(⟨34,[],[(33,vB x4)],[]⟩:ASt)) ?_ ?_
   ·refine s_sa (aops_nil ?_)
    cases sj h
    exact aw_ret ⟨rfl,rv r1⟩
   rcases co j4 with ⟨q4,j4⟩|⟨q4,j4⟩
   ·refine y_mv q4 ?_
    obtain ⟨x5,hx5,j4⟩:=bind_s j4
    refine aops_yes rfl rfl rfl rfl q4 (ev_call_v (zfp hx5) rfl [] ai rfl rfl rfl (.inl rfl) rfl) (y_nt q4 ?_)
    refine s_py q4 (aops_nil ?_)
    exact jx j4 wk
   iterate 3 refine np q4 ?_
   refine s_pn q4 (aops_nil ?_)
   exact jx j4 wk
  rcases co j3 with ⟨q3,j3⟩|⟨q3,j3⟩
  ·refine y_mv q3 ?_
   obtain ⟨g6,j3⟩:=ifp_s j3
   refine aops_yes rfl rfl rfl rfl q3 (zfX rfl rfl rfl g6 rfl) ?_
   obtain ⟨x7,hx7,j3⟩:=bind_s j3
   refine aops_yes rfl rfl rfl rfl q3 (ev_call_v (zeH hx7) rfl [] ai rfl rfl rfl (.inl rfl) rfl) (y_nt q3 ?_)
   refine s_py q3 (aops_nil ?_)
   exact jx j3 wk
  iterate 4 refine np q3 ?_
  refine s_pn q3 (aops_nil ?_)
  exact jx j3 wk
 intro p1
 obtain ⟨⟨n1,s1_0⟩,l1⟩:=p1
 replace l1:zaQ k a0 n1 s1_0=some o1:=l1
 rcases n1 with _|n1
 ·exact absurd (show none=some o1 from l1) nofun
 rw [zaQ] at l1
 refine aw_seq (aw_seq (aw_region ?_))
 iterate 2 refine s_mv ?_
 refine zaa rfl (zdg rfl rfl) (s_cm (aops_nil ?_))
 refine aw_if l1 (fun c8 l1=>?_) (fun c8 l1=>?_)
 ·refine aw_skip (aw_seq (aw_block (aw_seq (aw_region ?_))))
  iterate 2 refine s_mv ?_
  obtain ⟨g9,l1⟩:=ifp_s l1
  refine zaa rfl (zfX rfl rfl rfl g9 rfl) ?_
  obtain ⟨x10,hx10,l1⟩:=bind_s l1
  refine zaa rfl (ev_call_v (zgs hx10) rfl [] ai rfl rfl rfl (.inl rfl) rfl) (s_nt (aops_nil ?_))
  refine aw_if l1 (fun c11 l1=>?_) (fun c11 l1=>?_)
  ·refine aw_seq (aw_region (s_sa (aops_nil ?_)))
   cases sj l1
   replace h:=onS_r h
   cases sj h
   exact aw_ret ⟨rfl,rv r1⟩
  refine aw_skip (aw_region (s_mv ?_))
  obtain ⟨g12,l1⟩:=ifp_s l1
  refine zaa rfl (ev_add rfl rfl rfl (nat_add g12)) (s_sa (aops_nil ?_))
  exact ⟨⟨(n1,(s1_0+1)),l1⟩,Nat.lt_succ_self _,wk⟩
 refine aw_exit ?_
 show ∃_x:Unit,_=_∧Weak _ _
 exact ⟨(),sj l1,wk⟩
set_option maxHeartbeats 2000000 in
theorem zel {k:Nat} {a0:Value} {r:Bool} (h:zcn k a0=some r):FnC Tryz.prog 49 [.agg (c_Value a0)] [] (Det (vB r) []):=by
 unfold zcn at h
 refine fn_intro' 104 Tryz.func49 rfl rfl rfl (aw_seq (aw_region (zaa rfl (st_box 0 rfl rfl rfl rfl) (s_sa ?_))))
 refine aops_nil (aw_seq (aw_seq (aw_region (s_fd ?_))))
 refine s_ld ?_
 refine s_cm ?_
 refine s_mv ?_
 refine bo 4 ((a0.Kind != 1)&&(a0.Kind != 2)) ?_
 refine s_mv ?_
 refine bo 4 (((a0.Kind != 1)&&(a0.Kind != 2))&&(a0.N != 0)) ?_
 refine s_mv ?_
 refine aops_mid 9 (⟨104,[],[(1,.one (.ptr 0 0)),(26,vB ((((a0.Kind != 1)&&(a0.Kind != 2))&&(a0.N != 0))||((a0.Kind != 3)&&(!(decide (a0.S=([]:List UInt8)))))))],[(0,some (.box (c_Value a0)))]⟩:ASt) ?_ ?_
 ·rcases bool_or ((((a0.Kind != 1)&&(a0.Kind != 2))&&(a0.N != 0))) with q3|q3
  ·skip
   iterate 4 refine np q3 ?_
   iterate 3 refine aops_und rfl rfl rfl rfl rfl ?_
   refine np q3 ?_
   refine s_py q3 (aops_nil ?_)
   exact wq q3
  refine y_fd q3 ?_
  refine y_ld q3 ?_
  refine y_cm q3 ?_
  refine y_mv q3 ?_
  refine aops_mid 4 (⟨104,[],[(1,.one (.ptr 0 0)),(17,vB (((a0.Kind != 1)&&(a0.Kind != 2))&&(a0.N != 0))),(25,vB ((a0.Kind != 3)&&(!(decide (a0.S=([]:List UInt8))))))],[(0,some (.box (c_Value a0)))]⟩:ASt) ?_ ?_
  ·rcases bool_or ((a0.Kind != 3)) with q4|q4
   ·skip
    refine y_fd q4 ?_
    refine y_ld q4 ?_
    refine aops_yes rfl rfl rfl rfl q4 (st_str_ne rfl rfl rfl) (aops_yes rfl rfl rfl rfl q3 (zau rfl (by first|rfl|exact q4) rfl rfl) (aops_nil ?_))
    exact wq q4
   iterate 3 refine np q4 ?_
   refine aops_yes rfl rfl rfl rfl q3 (zaz rfl (by first|rfl|exact q4) rfl rfl) (aops_nil ?_)
   exact wq q4
  refine s_pn q3 (aops_nil ?_)
  exact wq q3
 refine s_mv ?_
 refine aops_mid 10 (⟨104,[],[(1,.one (.ptr 0 0)),(37,vB (((((a0.Kind != 1)&&(a0.Kind != 2))&&(a0.N != 0))||((a0.Kind != 3)&&(!(decide (a0.S=([]:List UInt8))))))||((a0.Kind != 4)&&(decide (((a0.I.length:Nat):Int)>0)))))],[(0,some (.box (c_Value a0)))]⟩:ASt) ?_ ?_
 ·rcases bool_or (((((a0.Kind != 1)&&(a0.Kind != 2))&&(a0.N != 0))||((a0.Kind != 3)&&(!(decide (a0.S=([]:List UInt8))))))) with q5|q5
  ·skip
   iterate 4 refine np q5 ?_
   iterate 4 refine aops_und rfl rfl rfl rfl rfl ?_
   refine np q5 ?_
   refine s_py q5 (aops_nil ?_)
   exact wq q5
  refine y_fd q5 ?_
  refine y_ld q5 ?_
  refine y_cm q5 ?_
  refine y_mv q5 ?_
  refine aops_mid 5 (⟨104,[],[(1,.one (.ptr 0 0)),(27,vB ((((a0.Kind != 1)&&(a0.Kind != 2))&&(a0.N != 0))||((a0.Kind != 3)&&(!(decide (a0.S=([]:List UInt8))))))),(36,vB ((a0.Kind != 4)&&(decide (((a0.I.length:Nat):Int)>0))))],[(0,some (.box (c_Value a0)))]⟩:ASt) ?_ ?_
  ·rcases bool_or ((a0.Kind != 4)) with q6|q6
   ·skip
    refine y_fd q6 ?_
    refine y_ld q6 ?_
    refine y_ln q6 ?_
    refine y_cm q6 ?_
    refine aops_yes rfl rfl rfl rfl q5 (zau rfl (by first|rfl|exact q6) rfl rfl) (aops_nil ?_)
    exact wq q6
   iterate 4 refine np q6 ?_
   refine aops_yes rfl rfl rfl rfl q5 (zaz rfl (by first|rfl|exact q6) rfl rfl) (aops_nil ?_)
   exact wq q6
  refine s_pn q5 (aops_nil ?_)
  exact wq q5
 refine s_mv ?_
 refine aops_mid 10 (⟨104,[],[(1,.one (.ptr 0 0)),(48,vB ((((((a0.Kind != 1)&&(a0.Kind != 2))&&(a0.N != 0))||((a0.Kind != 3)&&(!(decide (a0.S=([]:List UInt8))))))||((a0.Kind != 4)&&(decide (((a0.I.length:Nat):Int)>0))))||((a0.Kind != 5)&&(decide (((a0.L.length:Nat):Int)>0)))))],[(0,some (.box (c_Value a0)))]⟩:ASt) ?_ ?_
 ·rcases bool_or ((((((a0.Kind != 1)&&(a0.Kind != 2))&&(a0.N != 0))||((a0.Kind != 3)&&(!(decide (a0.S=([]:List UInt8))))))||((a0.Kind != 4)&&(decide (((a0.I.length:Nat):Int)>0))))) with q7|q7
  ·skip
   iterate 4 refine np q7 ?_
   iterate 4 refine aops_und rfl rfl rfl rfl rfl ?_
   refine np q7 ?_
   refine s_py q7 (aops_nil ?_)
   exact wq q7
  refine y_fd q7 ?_
  refine y_ld q7 ?_
  refine y_cm q7 ?_
  refine y_mv q7 ?_
  refine aops_mid 5 (⟨104,[],[(1,.one (.ptr 0 0)),(38,vB (((((a0.Kind != 1)&&(a0.Kind != 2))&&(a0.N != 0))||((a0.Kind != 3)&&(!(decide (a0.S=([]:List UInt8))))))||((a0.Kind != 4)&&(decide (((a0.I.length:Nat):Int)>0))))),(47,vB ((a0.Kind != 5)&&(decide (((a0.L.length:Nat):Int)>0))))],[(0,some (.box (c_Value a0)))]⟩:ASt) ?_ ?_
  ·rcases bool_or ((a0.Kind != 5)) with q8|q8
   ·skip
    refine y_fd q8 ?_
    refine y_ld q8 ?_
    refine y_ln q8 ?_
    refine y_cm q8 ?_
    refine aops_yes rfl rfl rfl rfl q7 (zau rfl (by first|rfl|exact q8) rfl rfl) (aops_nil ?_)
    exact wq q8
   iterate 4 refine np q8 ?_
   refine aops_yes rfl rfl rfl rfl q7 (zaz rfl (by first|rfl|exact q8) rfl rfl) (aops_nil ?_)
   exact wq q8
  refine s_pn q7 (aops_nil ?_)
  exact wq q7
 refine aops_nil ?_
 refine aw_if h (fun c9 h=>?_) (fun c9 h=>?_)
 ·refine aw_seq (aw_region (s_sa (aops_nil ?_)))
  cases sj h
  exact aw_ret ⟨rfl,rv r1⟩
 refine aw_skip (aw_seq (aw_seq (aw_region (s_fd ?_))))
 refine s_ld ?_
 refine s_cm ?_
 refine s_mv ?_
 refine bo 4 ((decide (a0.Kind<0))||(decide (a0.Kind>5))) ?_
 refine s_mv ?_
 refine aops_mid 14 (⟨104,[],[(1,.one (.ptr 0 0)),(71,vB (((decide (a0.Kind<0))||(decide (a0.Kind>5)))||(((a0.Kind==2)&&(a0.N != 0))&&(a0.N != 1))))],[(0,some (.box (c_Value a0)))]⟩:ASt) ?_ ?_
 ·rcases bool_or (((decide (a0.Kind<0))||(decide (a0.Kind>5)))) with q11|q11
  ·skip
   iterate 4 refine np q11 ?_
   iterate 3 refine aops_und rfl rfl rfl rfl rfl ?_
   iterate 2 refine np q11 ?_
   iterate 3 refine aops_und rfl rfl rfl rfl rfl ?_
   refine np q11 ?_
   refine s_py q11 (aops_nil ?_)
   exact wq q11
  refine y_fd q11 ?_
  refine y_ld q11 ?_
  refine y_cm q11 ?_
  refine y_mv q11 ?_
  refine aops_mid 4 (⟨104,[],[(1,.one (.ptr 0 0)),(57,vB ((decide (a0.Kind<0))||(decide (a0.Kind>5)))),(65,vB ((a0.Kind==2)&&(a0.N != 0)))],[(0,some (.box (c_Value a0)))]⟩:ASt) ?_ ?_
  ·rcases bool_or ((a0.Kind==2)) with q12|q12
   ·skip
    refine y_fd q12 ?_
    refine y_ld q12 ?_
    refine y_cm q12 ?_
    refine aops_yes rfl rfl rfl rfl q11 (zau rfl (by first|rfl|exact q12) rfl rfl) (aops_nil ?_)
    exact wq q12
   iterate 3 refine np q12 ?_
   refine aops_yes rfl rfl rfl rfl q11 (zaz rfl (by first|rfl|exact q12) rfl rfl) (aops_nil ?_)
   exact wq q12
  refine y_mv q11 ?_
  refine aops_mid 4 (⟨104,[],[(1,.one (.ptr 0 0)),(57,vB ((decide (a0.Kind<0))||(decide (a0.Kind>5)))),(70,vB (((a0.Kind==2)&&(a0.N != 0))&&(a0.N != 1)))],[(0,some (.box (c_Value a0)))]⟩:ASt) ?_ ?_
  ·rcases bool_or (((a0.Kind==2)&&(a0.N != 0))) with q13|q13
   ·skip
    refine y_fd q13 ?_
    refine y_ld q13 ?_
    refine y_cm q13 ?_
    refine aops_yes rfl rfl rfl rfl q11 (zau rfl (by first|rfl|exact q13) rfl rfl) (aops_nil ?_)
    exact wq q13
   iterate 3 refine np q13 ?_
   refine aops_yes rfl rfl rfl rfl q11 (zaz rfl (by first|rfl|exact q13) rfl rfl) (aops_nil ?_)
   exact wq q13
  refine s_pn q11 (aops_nil ?_)
  exact wq q11
 refine s_mv ?_
 refine aops_mid 5 (⟨104,[],[(1,.one (.ptr 0 0)),(77,vB ((((decide (a0.Kind<0))||(decide (a0.Kind>5)))||(((a0.Kind==2)&&(a0.N != 0))&&(a0.N != 1)))||(decide (((a0.S.length:Nat):Int)>64))))],[(0,some (.box (c_Value a0)))]⟩:ASt) ?_ ?_
 ·rcases bool_or ((((decide (a0.Kind<0))||(decide (a0.Kind>5)))||(((a0.Kind==2)&&(a0.N != 0))&&(a0.N != 1)))) with q14|q14
  ·skip
   iterate 4 refine np q14 ?_
   refine s_py q14 (aops_nil ?_)
   exact wq q14
  refine y_fd q14 ?_
  refine y_ld q14 ?_
  refine aops_yes rfl rfl rfl rfl q14 (zdg rfl rfl) (y_cm q14 ?_)
  refine s_pn q14 (aops_nil ?_)
  exact wq q14
 refine s_mv ?_
 refine bo 5 (((((decide (a0.Kind<0))||(decide (a0.Kind>5)))||(((a0.Kind==2)&&(a0.N != 0))&&(a0.N != 1)))||(decide (((a0.S.length:Nat):Int)>64)))||(decide (((a0.I.length:Nat):Int)>16))) ?_
 refine s_mv ?_
 refine bo 5 ((((((decide (a0.Kind<0))||(decide (a0.Kind>5)))||(((a0.Kind==2)&&(a0.N != 0))&&(a0.N != 1)))||(decide (((a0.S.length:Nat):Int)>64)))||(decide (((a0.I.length:Nat):Int)>16)))||(decide (((a0.L.length:Nat):Int)>16))) ?_
 refine aops_nil ?_
 refine aw_if h (fun c17 h=>?_) (fun c17 h=>?_)
 ·refine aw_seq (aw_region (s_sa (aops_nil ?_)))
  cases sj h
  exact aw_ret ⟨rfl,rv r1⟩
 refine aw_skip (aw_seq (aw_seq (aw_region (s_sa (aops_nil (aw_block ?_))))))
 obtain ⟨o18,ho18,h⟩:=bind_s h
 refine aw_loop_x (ι:={p:Nat×Nat // zbB k a0 p.1 p.2=some o18}) (fun p=>(⟨104,[],[(1,.one (.ptr 0 0)),(3,vI ((p.1.2:Nat):Int))],[(0,some (.box (c_Value a0)))]⟩:ASt)) (fun p=>p.1.1) ⟨(k,0),ho18⟩ wk 0 (ε:=Unit) (fun x=>(⟨104,[],[],[]⟩:ASt)) (fun x=>Sum.inl x=o18) (fun _ _ w h=>aw_weak w h) ?_ ?_
 ·intro x18_0 hI18
  subst hI18
  replace h:=onS_l h
  refine aw_seq (aw_region (s_sa (aops_nil ?_)))
  cases sj h
  exact aw_ret ⟨rfl,rv r1⟩
 intro p18
 obtain ⟨⟨n18,s18_0⟩,l18⟩:=p18
 replace l18:zbB k a0 n18 s18_0=some o18:=l18
 rcases n18 with _|n18
 ·exact absurd (show none=some o18 from l18) nofun
 rw [zbB] at l18
 refine aw_seq (aw_seq (aw_region (s_mv ?_)))
 refine s_fd ?_
 refine s_ld ?_
 refine s_ln ?_
 refine s_cm (aops_nil ?_)
 refine aw_if l18 (fun c19 l18=>?_) (fun c19 l18=>?_)
 ·refine aw_skip (aw_seq (aw_block (aw_seq (aw_region (s_fd ?_)))))
  refine s_ld ?_
  refine s_mv ?_
  obtain ⟨g20,l18⟩:=ifp_s l18
  refine zaa rfl (zaf rfl rfl rfl g20 rfl rfl) (zaa rfl (zas rfl rfl rfl) (zaa rfl (zdg rfl rfl) (s_cm (aops_nil ?_))))
  refine aw_if l18 (fun c21 l18=>?_) (fun c21 l18=>?_)
  ·refine aw_seq (aw_region (s_sa (aops_nil ?_)))
   cases sj l18
   replace h:=onS_r h
   cases sj h
   exact aw_ret ⟨rfl,rv r1⟩
  refine aw_skip (aw_region (s_mv ?_))
  obtain ⟨g22,l18⟩:=ifp_s l18
  refine zaa rfl (ev_add rfl rfl rfl (nat_add g22)) (s_sa (aops_nil ?_))
  exact ⟨⟨(n18,(s18_0+1)),l18⟩,Nat.lt_succ_self _,wk⟩
 refine aw_exit ?_
 show ∃_x:Unit,_=_∧Weak _ _
 exact ⟨(),sj l18,wk⟩
set_option maxHeartbeats 2000000 in
theorem zfo {k:Nat} {a0:CodeType} {a1:List UInt8} {r:Int×Bool} (h:zcC k a0 a1=some r):FnC Tryz.prog 50 [.agg (zab a0),.one (.val (Sv a1))] [] (Det (.tup [vI r.1,vB r.2]) []):=by
 unfold zcC at h
 refine fn_intro' 23 Tryz.func50 rfl rfl rfl (aw_seq (aw_region (zaa rfl (st_box 0 rfl rfl rfl rfl) ?_)))
 iterate 2 refine s_sa ?_
 refine aops_nil (aw_seq (aw_seq (aw_region (s_sa (aops_nil (aw_block ?_))))))
 obtain ⟨o1,ho1,h⟩:=bind_s h
 refine aw_loop_x (ι:={p:Nat×Nat // zaK k a0 a1 p.1 p.2=some o1}) (fun p=>(⟨23,[],[(1,.one (.val (Sv a1))),(2,.one (.ptr 0 0)),(6,vI ((p.1.2:Nat):Int))],[(0,some (.box (zab a0)))]⟩:ASt)) (fun p=>p.1.1) ⟨(k,0),ho1⟩ wk 0 (ε:=Unit) (fun x=>(⟨23,[],[],[]⟩:ASt)) (fun x=>Sum.inl x=o1) (fun _ _ w h=>aw_weak w h) ?_ ?_
 ·intro x1_0 hI1
  subst hI1
  replace h:=onS_l h
  refine aw_seq (aw_region ?_)
  iterate 2 refine s_sa ?_
  refine aops_nil ?_
  cases sj h
  exact aw_ret ⟨rfl,rv (rn (.cons o1 (.cons o1 .nil)))⟩
 intro p1
 obtain ⟨⟨n1,s1_0⟩,l1⟩:=p1
 replace l1:zaK k a0 a1 n1 s1_0=some o1:=l1
 rcases n1 with _|n1
 ·exact absurd (show none=some o1 from l1) nofun
 rw [zaK] at l1
 refine aw_seq (aw_seq (aw_region (s_mv ?_)))
 refine s_fd ?_
 refine s_ld ?_
 refine s_ln ?_
 refine s_cm (aops_nil ?_)
 refine aw_if l1 (fun c2 l1=>?_) (fun c2 l1=>?_)
 ·refine aw_skip (aw_seq (aw_block (aw_seq (aw_region (s_fd ?_)))))
  refine s_ld ?_
  refine s_mv ?_
  obtain ⟨g3,l1⟩:=ifp_s l1
  refine zaa rfl (zaf rfl rfl rfl g3 rfl rfl) (zaa rfl (zaM rfl rfl rfl) (zaa rfl (zas rfl rfl rfl) (s_mv ?_)))
  refine zaa rfl (st_str_eq rfl rfl rfl) (aops_nil ?_)
  refine aw_if l1 (fun c4 l1=>?_) (fun c4 l1=>?_)
  ·refine aw_seq (aw_region (s_mv ?_))
   iterate 2 refine s_sa ?_
   refine aops_nil ?_
   cases sj l1
   replace h:=onS_r h
   cases sj h
   exact aw_ret ⟨rfl,rv (rn (.cons o1 (.cons o1 .nil)))⟩
  refine aw_skip (aw_region (s_mv ?_))
  obtain ⟨g5,l1⟩:=ifp_s l1
  refine zaa rfl (ev_add rfl rfl rfl (nat_add g5)) (s_sa (aops_nil ?_))
  exact ⟨⟨(n1,(s1_0+1)),l1⟩,Nat.lt_succ_self _,wk⟩
 refine aw_exit ?_
 show ∃_x:Unit,_=_∧Weak _ _
 exact ⟨(),sj l1,wk⟩
set_option maxHeartbeats 2000000 in
theorem zcS {k:Nat} {a0:List Int} {r:Bool} (h:zdu k a0=some r):FnC Tryz.prog 85 [.one (CV.ls c_Int a0)] [] (Det (vB r) []):=by
 unfold zdu at h
 refine fn_intro' 22 Tryz.func85 rfl rfl rfl (aw_seq (aw_region (s_sa ?_)))
 refine aops_nil (aw_seq (aw_seq (aw_region (s_sa (aops_nil (aw_block ?_))))))
 obtain ⟨o1,ho1,h⟩:=bind_s h
 refine aw_loop_x (ι:={p:Nat×Nat // zbe k a0 p.1 p.2=some o1}) (fun p=>(⟨22,[],[(0,.one (CV.ls c_Int a0)),(3,vI ((p.1.2:Nat):Int))],[]⟩:ASt)) (fun p=>p.1.1) ⟨(k,0),ho1⟩ wk 0 (ε:=Unit) (fun x=>(⟨22,[],[],[]⟩:ASt)) (fun x=>Sum.inl x=o1) (fun _ _ w h=>aw_weak w h) ?_ ?_
 ·intro x1_0 hI1
  subst hI1
  replace h:=onS_l h
  refine aw_seq (aw_region (s_sa (aops_nil ?_)))
  cases sj h
  exact aw_ret ⟨rfl,rv r1⟩
 intro p1
 obtain ⟨⟨n1,s1_0⟩,l1⟩:=p1
 replace l1:zbe k a0 n1 s1_0=some o1:=l1
 rcases n1 with _|n1
 ·exact absurd (show none=some o1 from l1) nofun
 rw [zbe] at l1
 refine aw_seq (aw_seq (aw_region ?_))
 iterate 2 refine s_mv ?_
 refine s_ln ?_
 refine s_cm (aops_nil ?_)
 refine aw_if l1 (fun c2 l1=>?_) (fun c2 l1=>?_)
 ·refine aw_skip (aw_seq (aw_block (aw_seq (aw_region ?_))))
  iterate 2 refine s_mv ?_
  obtain ⟨g3,l1⟩:=ifp_s l1
  refine zaa rfl (zaf rfl rfl rfl g3 rfl rfl) (zaa rfl (zas rfl rfl rfl) (s_cm ?_))
  refine s_mv ?_
  obtain ⟨o4,j4,l1⟩:=bind_s l1
  refine aops_cutE 6 o4 (fun x4=>(⟨22,[],[(0,.one (CV.ls c_Int a0)),(3,vI ((s1_0:Nat):Int)),(21,vB x4)],[]⟩:ASt)) ?_ ?_
  ·refine aops_nil ?_
   refine aw_if l1 (fun c5 l1=>?_) (fun c5 l1=>?_)
   ·refine aw_seq (aw_region (s_sa (aops_nil ?_)))
    cases sj l1
    replace h:=onS_r h
    cases sj h
    exact aw_ret ⟨rfl,rv r1⟩
   refine aw_skip (aw_region (s_mv ?_))
   obtain ⟨g6,l1⟩:=ifp_s l1
   refine zaa rfl (ev_add rfl rfl rfl (nat_add g6)) (s_sa (aops_nil ?_))
   exact ⟨⟨(n1,(s1_0+1)),l1⟩,Nat.lt_succ_self _,wk⟩
  rcases co j4 with ⟨q4,j4⟩|⟨q4,j4⟩
  ·iterate 5 refine np q4 ?_
   refine s_py q4 (aops_nil ?_)
   exact jx j4 wk
  iterate 2 refine y_mv q4 ?_
  obtain ⟨g7,j4⟩:=ifp_s j4
  refine aops_yes rfl rfl rfl rfl q4 (zaf rfl rfl rfl g7 rfl rfl) (aops_yes rfl rfl rfl rfl q4 (zas rfl rfl rfl) (y_cm q4 ?_))
  refine s_pn q4 (aops_nil ?_)
  exact jx j4 wk
 refine aw_exit ?_
 show ∃_x:Unit,_=_∧Weak _ _
 exact ⟨(),sj l1,wk⟩
set_option maxHeartbeats 2000000 in
theorem zfi {k:Nat} {a0:List (List UInt8)} {a1:List (List UInt8)} {r:Bool} (h:zcB k a0 a1=some r):FnC Tryz.prog 119 [.one (CV.ls c_Str a0),.one (CV.ls c_Str a1)] [] (Det (vB r) []):=by
 unfold zcB at h
 refine fn_intro' 26 Tryz.func119 rfl rfl rfl (aw_seq (aw_region (s_sa ?_)))
 refine aops_nil (aw_seq (aw_seq (aw_region (s_mv ?_))))
 refine s_ln ?_
 refine s_mv ?_
 refine s_ln ?_
 refine s_cm (aops_nil ?_)
 refine aw_if h (fun c1 h=>?_) (fun c1 h=>?_)
 ·refine aw_seq (aw_region (s_sa (aops_nil ?_)))
  cases sj h
  exact aw_ret ⟨rfl,rv r1⟩
 refine aw_skip (aw_seq (aw_seq (aw_region (s_sa (aops_nil (aw_block ?_))))))
 obtain ⟨o2,ho2,h⟩:=bind_s h
 refine aw_loop_x (ι:={p:Nat×Nat // zbs k a0 a1 p.1 p.2=some o2}) (fun p=>(⟨26,[],[(0,.one (CV.ls c_Str a0)),(1,.one (CV.ls c_Str a1)),(5,vI ((p.1.2:Nat):Int))],[]⟩:ASt)) (fun p=>p.1.1) ⟨(k,0),ho2⟩ wk 0 (ε:=Unit) (fun x=>(⟨26,[],[],[]⟩:ASt)) (fun x=>Sum.inl x=o2) (fun _ _ w h=>aw_weak w h) ?_ ?_
 ·intro x2_0 hI2
  subst hI2
  replace h:=onS_l h
  refine aw_seq (aw_region (s_sa (aops_nil ?_)))
  cases sj h
  exact aw_ret ⟨rfl,rv r1⟩
 intro p2
 obtain ⟨⟨n2,s2_0⟩,l2⟩:=p2
 replace l2:zbs k a0 a1 n2 s2_0=some o2:=l2
 rcases n2 with _|n2
 ·exact absurd (show none=some o2 from l2) nofun
 rw [zbs] at l2
 refine aw_seq (aw_seq (aw_region ?_))
 iterate 2 refine s_mv ?_
 refine s_ln ?_
 refine s_cm (aops_nil ?_)
 refine aw_if l2 (fun c3 l2=>?_) (fun c3 l2=>?_)
 ·refine aw_skip (aw_seq (aw_block ?_))
  obtain ⟨g4,l2⟩:=ifp_s l2
  obtain ⟨g5,l2⟩:=ifp_s l2
  refine aw_seq ?_
  apply aw_draw 8 [ad _,ad _,ad _,ad _,ad _,ad _,ad _,ad _] (by decide) rfl ?hk6x ?hf6x ?ho6x ?hr6x
  case ho6x =>
   refine o_mv 0 ?_
   refine o_mv 0 ?_
   refine obn 3 (fun S hle hfr=>.inl ⟨w0,zaf (hle.e rfl) (hle.e rfl) rfl g4 rfl (hle.d rfl)⟩) ?_
   refine o_li 7 ?_
   refine o_mv 0 ?_
   refine o_mv 0 ?_
   refine obn 48 (fun S hle hfr=>.inl ⟨w0,zaf (hle.e rfl) (hle.e rfl) rfl g5 rfl (hle.d rfl)⟩) ?_
   refine o_li 112 ?_
   exact trivial
  case hk6x=>rfl
  case hf6x=>rfl
  refine zaa rfl (st_str_ne rfl rfl rfl) (aops_nil ?_)
  refine aw_if l2 (fun c6 l2=>?_) (fun c6 l2=>?_)
  ·refine aw_seq (aw_region (s_sa (aops_nil ?_)))
   cases sj l2
   replace h:=onS_r h
   cases sj h
   exact aw_ret ⟨rfl,rv r1⟩
  refine aw_skip (aw_region (s_mv ?_))
  obtain ⟨g7,l2⟩:=ifp_s l2
  refine zaa rfl (ev_add rfl rfl rfl (nat_add g7)) (s_sa (aops_nil ?_))
  exact ⟨⟨(n2,(s2_0+1)),l2⟩,Nat.lt_succ_self _,wk⟩
 refine aw_exit ?_
 show ∃_x:Unit,_=_∧Weak _ _
 exact ⟨(),sj l2,wk⟩
set_option maxHeartbeats 2000000 in
theorem zfE {k:Nat} {a0:Value} {a1:Value} {r:Bool} (h:zcv k a0 a1=some r):FnC Tryz.prog 107 [.agg (c_Value a0),.agg (c_Value a1)] [] (Det (vB r) []):=by
 unfold zcv at h
 refine fn_intro' 38 Tryz.func107 rfl rfl rfl (aw_seq (aw_region (zaa rfl (st_box 0 rfl rfl rfl rfl) (zaa rfl (st_box 1 rfl rfl rfl rfl) (s_sa ?_)))))
 refine aops_nil (aw_seq (aw_region (s_fd ?_)))
 refine s_ld ?_
 refine s_fd ?_
 refine s_ld ?_
 refine s_cm ?_
 refine s_mv ?_
 refine bo 6 ((a0.Kind==a1.Kind)&&(a0.N==a1.N)) ?_
 refine s_mv ?_
 refine aops_mid 6 (⟨38,[],[(2,.one (.ptr 0 0)),(3,.one (.ptr 1 0)),(4,vB false),(23,vB (((a0.Kind==a1.Kind)&&(a0.N==a1.N))&&(decide (a0.S=a1.S))))],[(0,some (.box (c_Value a0))),(1,some (.box (c_Value a1)))]⟩:ASt) ?_ ?_
 ·rcases bool_or (((a0.Kind==a1.Kind)&&(a0.N==a1.N))) with q2|q2
  ·skip
   refine y_fd q2 ?_
   refine y_ld q2 ?_
   refine y_fd q2 ?_
   refine y_ld q2 ?_
   refine aops_yes rfl rfl rfl rfl q2 (st_str_eq rfl rfl rfl) (s_py q2 (aops_nil ?_))
   exact wq q2
  iterate 5 refine np q2 ?_
  refine s_pn q2 (aops_nil ?_)
  exact wq q2
 refine s_mv ?_
 obtain ⟨o3,j3,h⟩:=bind_s h
 refine aops_cutE 6 o3 (fun x3=>(⟨38,[],[(2,.one (.ptr 0 0)),(3,.one (.ptr 1 0)),(4,vB false),(30,vB x3)],[(0,some (.box (c_Value a0))),(1,some (.box (c_Value a1)))]⟩:ASt)) ?_ ?_
 ·refine s_mv ?_
  obtain ⟨o4,j4,h⟩:=bind_s h
  refine aops_cutE 6 o4 (fun x4=>(⟨38,[],[(4,vB false),(37,vB x4)],[]⟩:ASt)) ?_ ?_
  ·refine s_sa (aops_nil ?_)
   cases sj h
   exact aw_ret ⟨rfl,rv r1⟩
  rcases co j4 with ⟨q4,j4⟩|⟨q4,j4⟩
  ·refine y_fd q4 ?_
   refine y_ld q4 ?_
   refine y_fd q4 ?_
   refine y_ld q4 ?_
   obtain ⟨x5,hx5,j4⟩:=bind_s j4
   refine aops_yes rfl rfl rfl rfl q4 (ev_call_v (zfi hx5) rfl [] ai rfl rfl rfl (.inl rfl) rfl) (s_py q4 (aops_nil ?_))
   exact jx j4 wk
  iterate 5 refine np q4 ?_
  refine s_pn q4 (aops_nil ?_)
  exact jx j4 wk
 rcases co j3 with ⟨q3,j3⟩|⟨q3,j3⟩
 ·refine y_fd q3 ?_
  refine y_ld q3 ?_
  refine y_fd q3 ?_
  refine y_ld q3 ?_
  obtain ⟨x6,hx6,j3⟩:=bind_s j3
  refine aops_yes rfl rfl rfl rfl q3 (ev_call_v (zbL hx6) rfl [] ai rfl rfl rfl (.inl rfl) rfl) (s_py q3 (aops_nil ?_))
  exact jx j3 wk
 iterate 5 refine np q3 ?_
 refine s_pn q3 (aops_nil ?_)
 exact jx j3 wk
end Md
end Go.Proofs.YtclffekkjfhpdaaGreat

