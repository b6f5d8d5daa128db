import Derived.Test.YtclffekkjfhpdaaGreatQAbsSw
import Derived.Test.YtclffekkjfhpdaaGreatQMo
import Derived.Test.YtclffekkjfhpdaaGreatQTy
import Derived.Test.YtclffekkjfhpdaaGreatQAbsU
import Derived.Test.YtclffekkjfhpdaaGreatQAbsF
import Derived.Test.YtclffekkjfhpdaaGreatQAbsM
import Derived.Test.YtclffekkjfhpdaaGreatQCodeB
namespace Go.Proofs.YtclffekkjfhpdaaGreat
open Go.ChangeShapes Go.WideShapes Go.RowKit
open Abs
set_option linter.unusedVariables false
set_option linter.unusedSimpArgs false
set_option maxRecDepth 10000
namespace Md
set_option maxHeartbeats 2000000 in
theorem zdY {k:Nat} {a0:Int} {c1_0:Code} {r:Bool} (h:zbz k a0 c1_0=some r):FnC Tryz.prog 39 [vI a0,.one (.fn 40 [.cptr [CV.ls zab c1_0.Types]])] [] (Det (vB r) []):=by
 unfold zbz at h
 refine fn_intro' 27 Tryz.func39 rfl rfl rfl (aw_seq (aw_region (s_sa ?_)))
 refine aops_nil (aw_seq (aw_region (zaa rfl (zhu 0 rfl rfl) (s_sa (aops_nil (aw_seq (aw_seq (aw_region ?_))))))))
 iterate 2 refine s_mv ?_
 refine aops_nil (aw_block ?_)
 obtain ⟨o1,ho1,h⟩:=bind_s h
 refine aw_loop_x (ι:={p:Nat×Nat×(List (List UInt8)) // zaA k a0 c1_0 p.1 p.2.1 p.2.2=some o1}) (fun p=>(⟨27,[],[(1,.one (.fn 40 [.cptr [CV.ls zab c1_0.Types]])),(5,.one (.itp 0)),(9,vI a0),(10,vI ((p.1.2.1:Nat):Int))],[(0,some (setB p.1.2.2))]⟩:ASt)) (fun p=>p.1.1) ⟨(k,0,([]:List (List UInt8))),ho1⟩ wk 0 (ε:=Unit) (fun x=>(⟨27,[],[],[]⟩:ASt)) (fun x=>Sum.inl x=o1) (fun _ _ w h=>aw_weak w h) ?_ ?_
 ·intro x1_0 hI1
  subst hI1
  replace h:=onS_l h
  refine aw_seq (aw_region (s_sa (aops_nil ?_)))
  cases sj h
  exact aw_ret ⟨rfl,rv r1⟩
 intro p1
 obtain ⟨⟨n1,s1_0,s1_1⟩,l1⟩:=p1
 replace l1:zaA k a0 c1_0 n1 s1_0 s1_1=some o1:=l1
 rcases n1 with _|n1
 ·exact absurd (show none=some o1 from l1) nofun
 rw [zaA] at l1
 refine aw_seq (aw_region (s_cm (aops_nil (aw_seq ?_))))
 refine aw_if l1 (fun c2 l1=>?_) (fun c2 l1=>?_)
 ·refine aw_skip (aw_seq (aw_block (aw_seq (aw_region (s_mv ?_)))))
  refine s_sa (aops_nil (aw_seq (aw_region ?_)))
  iterate 2 refine s_mv ?_
  obtain ⟨x3,hx3,l1⟩:=bind_s l1
  refine zaa rfl (zee (zgg hx3) rfl rfl [] ai rfl rfl rfl (.inl rfl) rfl) (s_sa ?_)
  refine aops_nil (aw_seq (aw_seq (aw_region (s_mv ?_))))
  obtain ⟨x4,hx4,l1⟩:=bind_s l1
  refine zaa rfl (ev_call_v (zfz hx4) rfl [] ai rfl rfl rfl (.inl rfl) rfl) (s_nt ?_)
  refine s_mv ?_
  refine aops_mid 4 (⟨27,[],[(1,.one (.fn 40 [.cptr [CV.ls zab c1_0.Types]])),(5,.one (.itp 0)),(7,.one (.val (Sv x3))),(9,vI a0),(10,vI ((s1_0:Nat):Int)),(23,vB ((!x4)||(decide (x3∈s1_1))))],[(0,some (setB s1_1))]⟩:ASt) ?_ ?_
  ·rcases bool_or ((!x4)) with q5|q5
   ·skip
    iterate 3 refine np q5 ?_
    refine s_py q5 (aops_nil ?_)
    exact wq q5
   iterate 2 refine y_mv q5 ?_
   refine aops_yes rfl rfl rfl rfl q5 (zhF rfl rfl rfl Tryz.underlying121 Tryz.underlying9 rfl) (s_pn q5 (aops_nil ?_))
   exact wq q5
  refine aops_nil ?_
  refine aw_if l1 (fun c6 l1=>?_) (fun c6 l1=>?_)
  ·refine aw_seq (aw_region (s_sa (aops_nil ?_)))
   cases sj l1
   replace h:=onS_r h
   cases sj h
   exact aw_ret ⟨rfl,rv r1⟩
  refine aw_skip (aw_region ?_)
  iterate 2 refine s_mv ?_
  obtain ⟨g7,l1⟩:=ifp_s l1
  refine zaa rfl (ev_putSet rfl rfl rfl rfl g7 Tryz.underlying121 Tryz.underlying9 rfl) (aops_nil (aw_region ?_))
  obtain ⟨g8,l1⟩:=ifp_s l1
  refine zaa rfl (ev_add rfl rfl rfl (nat_add g8)) (s_mv (aops_nil ?_))
  exact ⟨⟨(n1,(s1_0+1),(s1_1++[x3])),l1⟩,Nat.lt_succ_self _,wk⟩
 refine aw_exit ?_
 show ∃_x:Unit,_=_∧Weak _ _
 exact ⟨(),sj l1,wk⟩
set_option maxHeartbeats 2000000 in
theorem zdX {k:Nat} {a0:Int} {c1_0:CodeType} {r:Bool} (h:zbA k a0 c1_0=some r):FnC Tryz.prog 39 [vI a0,.one (.fn 72 [.cptr [.val (Sv c1_0.Name),CV.ls c_Field c1_0.Fields,CV.ls zad c1_0.Methods]])] [] (Det (vB r) []):=by
 unfold zbA at h
 refine fn_intro' 27 Tryz.func39 rfl rfl rfl (aw_seq (aw_region (s_sa ?_)))
 refine aops_nil (aw_seq (aw_region (zaa rfl (zhu 0 rfl rfl) (s_sa (aops_nil (aw_seq (aw_seq (aw_region ?_))))))))
 iterate 2 refine s_mv ?_
 refine aops_nil (aw_block ?_)
 obtain ⟨o1,ho1,h⟩:=bind_s h
 refine aw_loop_x (ι:={p:Nat×Nat×(List (List UInt8)) // zaC k a0 c1_0 p.1 p.2.1 p.2.2=some o1}) (fun p=>(⟨27,[],[(1,.one (.fn 72 [.cptr [.val (Sv c1_0.Name),CV.ls c_Field c1_0.Fields,CV.ls zad c1_0.Methods]])),(5,.one (.itp 0)),(9,vI a0),(10,vI ((p.1.2.1:Nat):Int))],[(0,some (setB p.1.2.2))]⟩:ASt)) (fun p=>p.1.1) ⟨(k,0,([]:List (List UInt8))),ho1⟩ wk 0 (ε:=Unit) (fun x=>(⟨27,[],[],[]⟩:ASt)) (fun x=>Sum.inl x=o1) (fun _ _ w h=>aw_weak w h) ?_ ?_
 ·intro x1_0 hI1
  subst hI1
  replace h:=onS_l h
  refine aw_seq (aw_region (s_sa (aops_nil ?_)))
  cases sj h
  exact aw_ret ⟨rfl,rv r1⟩
 intro p1
 obtain ⟨⟨n1,s1_0,s1_1⟩,l1⟩:=p1
 replace l1:zaC k a0 c1_0 n1 s1_0 s1_1=some o1:=l1
 rcases n1 with _|n1
 ·exact absurd (show none=some o1 from l1) nofun
 rw [zaC] at l1
 refine aw_seq (aw_region (s_cm (aops_nil (aw_seq ?_))))
 refine aw_if l1 (fun c2 l1=>?_) (fun c2 l1=>?_)
 ·refine aw_skip (aw_seq (aw_block (aw_seq (aw_region (s_mv ?_)))))
  refine s_sa (aops_nil (aw_seq (aw_region ?_)))
  iterate 2 refine s_mv ?_
  obtain ⟨x3,hx3,l1⟩:=bind_s l1
  refine zaa rfl (zee (zgf hx3) rfl rfl [] ai rfl rfl rfl (.inl rfl) rfl) (s_sa ?_)
  refine aops_nil (aw_seq (aw_seq (aw_region (s_mv ?_))))
  obtain ⟨x4,hx4,l1⟩:=bind_s l1
  refine zaa rfl (ev_call_v (zfz hx4) rfl [] ai rfl rfl rfl (.inl rfl) rfl) (s_nt ?_)
  refine s_mv ?_
  refine aops_mid 4 (⟨27,[],[(1,.one (.fn 72 [.cptr [.val (Sv c1_0.Name),CV.ls c_Field c1_0.Fields,CV.ls zad c1_0.Methods]])),(5,.one (.itp 0)),(7,.one (.val (Sv x3))),(9,vI a0),(10,vI ((s1_0:Nat):Int)),(23,vB ((!x4)||(decide (x3∈s1_1))))],[(0,some (setB s1_1))]⟩:ASt) ?_ ?_
  ·rcases bool_or ((!x4)) with q5|q5
   ·skip
    iterate 3 refine np q5 ?_
    refine s_py q5 (aops_nil ?_)
    exact wq q5
   iterate 2 refine y_mv q5 ?_
   refine aops_yes rfl rfl rfl rfl q5 (zhF rfl rfl rfl Tryz.underlying121 Tryz.underlying9 rfl) (s_pn q5 (aops_nil ?_))
   exact wq q5
  refine aops_nil ?_
  refine aw_if l1 (fun c6 l1=>?_) (fun c6 l1=>?_)
  ·refine aw_seq (aw_region (s_sa (aops_nil ?_)))
   cases sj l1
   replace h:=onS_r h
   cases sj h
   exact aw_ret ⟨rfl,rv r1⟩
  refine aw_skip (aw_region ?_)
  iterate 2 refine s_mv ?_
  obtain ⟨g7,l1⟩:=ifp_s l1
  refine zaa rfl (ev_putSet rfl rfl rfl rfl g7 Tryz.underlying121 Tryz.underlying9 rfl) (aops_nil (aw_region ?_))
  obtain ⟨g8,l1⟩:=ifp_s l1
  refine zaa rfl (ev_add rfl rfl rfl (nat_add g8)) (s_mv (aops_nil ?_))
  exact ⟨⟨(n1,(s1_0+1),(s1_1++[x3])),l1⟩,Nat.lt_succ_self _,wk⟩
 refine aw_exit ?_
 show ∃_x:Unit,_=_∧Weak _ _
 exact ⟨(),sj l1,wk⟩
set_option maxHeartbeats 2000000 in
theorem zeb {k:Nat} {a0:Int} {c1_0:CodeType} {r:Bool} (h:zbv k a0 c1_0=some r):FnC Tryz.prog 39 [vI a0,.one (.fn 73 [.cptr [.val (Sv c1_0.Name),CV.ls c_Field c1_0.Fields,CV.ls zad c1_0.Methods]])] [] (Det (vB r) []):=by
 unfold zbv at h
 refine fn_intro' 27 Tryz.func39 rfl rfl rfl (aw_seq (aw_region (s_sa ?_)))
 refine aops_nil (aw_seq (aw_region (zaa rfl (zhu 0 rfl rfl) (s_sa (aops_nil (aw_seq (aw_seq (aw_region ?_))))))))
 iterate 2 refine s_mv ?_
 refine aops_nil (aw_block ?_)
 obtain ⟨o1,ho1,h⟩:=bind_s h
 refine aw_loop_x (ι:={p:Nat×Nat×(List (List UInt8)) // zaB k a0 c1_0 p.1 p.2.1 p.2.2=some o1}) (fun p=>(⟨27,[],[(1,.one (.fn 73 [.cptr [.val (Sv c1_0.Name),CV.ls c_Field c1_0.Fields,CV.ls zad c1_0.Methods]])),(5,.one (.itp 0)),(9,vI a0),(10,vI ((p.1.2.1:Nat):Int))],[(0,some (setB p.1.2.2))]⟩:ASt)) (fun p=>p.1.1) ⟨(k,0,([]:List (List UInt8))),ho1⟩ wk 0 (ε:=Unit) (fun x=>(⟨27,[],[],[]⟩:ASt)) (fun x=>Sum.inl x=o1) (fun _ _ w h=>aw_weak w h) ?_ ?_
 ·intro x1_0 hI1
  subst hI1
  replace h:=onS_l h
  refine aw_seq (aw_region (s_sa (aops_nil ?_)))
  cases sj h
  exact aw_ret ⟨rfl,rv r1⟩
 intro p1
 obtain ⟨⟨n1,s1_0,s1_1⟩,l1⟩:=p1
 replace l1:zaB k a0 c1_0 n1 s1_0 s1_1=some o1:=l1
 rcases n1 with _|n1
 ·exact absurd (show none=some o1 from l1) nofun
 rw [zaB] at l1
 refine aw_seq (aw_region (s_cm (aops_nil (aw_seq ?_))))
 refine aw_if l1 (fun c2 l1=>?_) (fun c2 l1=>?_)
 ·refine aw_skip (aw_seq (aw_block (aw_seq (aw_region (s_mv ?_)))))
  refine s_sa (aops_nil (aw_seq (aw_region ?_)))
  iterate 2 refine s_mv ?_
  obtain ⟨x3,hx3,l1⟩:=bind_s l1
  refine zaa rfl (zee (zgl hx3) rfl rfl [] ai rfl rfl rfl (.inl rfl) rfl) (s_sa ?_)
  refine aops_nil (aw_seq (aw_seq (aw_region (s_mv ?_))))
  obtain ⟨x4,hx4,l1⟩:=bind_s l1
  refine zaa rfl (ev_call_v (zfz hx4) rfl [] ai rfl rfl rfl (.inl rfl) rfl) (s_nt ?_)
  refine s_mv ?_
  refine aops_mid 4 (⟨27,[],[(1,.one (.fn 73 [.cptr [.val (Sv c1_0.Name),CV.ls c_Field c1_0.Fields,CV.ls zad c1_0.Methods]])),(5,.one (.itp 0)),(7,.one (.val (Sv x3))),(9,vI a0),(10,vI ((s1_0:Nat):Int)),(23,vB ((!x4)||(decide (x3∈s1_1))))],[(0,some (setB s1_1))]⟩:ASt) ?_ ?_
  ·rcases bool_or ((!x4)) with q5|q5
   ·skip
    iterate 3 refine np q5 ?_
    refine s_py q5 (aops_nil ?_)
    exact wq q5
   iterate 2 refine y_mv q5 ?_
   refine aops_yes rfl rfl rfl rfl q5 (zhF rfl rfl rfl Tryz.underlying121 Tryz.underlying9 rfl) (s_pn q5 (aops_nil ?_))
   exact wq q5
  refine aops_nil ?_
  refine aw_if l1 (fun c6 l1=>?_) (fun c6 l1=>?_)
  ·refine aw_seq (aw_region (s_sa (aops_nil ?_)))
   cases sj l1
   replace h:=onS_r h
   cases sj h
   exact aw_ret ⟨rfl,rv r1⟩
  refine aw_skip (aw_region ?_)
  iterate 2 refine s_mv ?_
  obtain ⟨g7,l1⟩:=ifp_s l1
  refine zaa rfl (ev_putSet rfl rfl rfl rfl g7 Tryz.underlying121 Tryz.underlying9 rfl) (aops_nil (aw_region ?_))
  obtain ⟨g8,l1⟩:=ifp_s l1
  refine zaa rfl (ev_add rfl rfl rfl (nat_add g8)) (s_mv (aops_nil ?_))
  exact ⟨⟨(n1,(s1_0+1),(s1_1++[x3])),l1⟩,Nat.lt_succ_self _,wk⟩
 refine aw_exit ?_
 show ∃_x:Unit,_=_∧Weak _ _
 exact ⟨(),sj l1,wk⟩
set_option maxHeartbeats 2000000 in
theorem zgB {k:Nat} {a0:CodeType} {r:Bool} (h:zdO k a0=some r):FnC Tryz.prog 43 [.agg (zab a0)] [] (Det (vB r) []):=by
 unfold zdO at h
 refine fn_intro' 31 Tryz.func43 rfl rfl rfl (aw_seq (aw_region (zaa rfl (st_box 0 rfl rfl rfl rfl) (s_sa ?_))))
 refine aops_nil (aw_seq (aw_frbox 0 rfl (aw_seq (aw_region (zaa rfl (zaM rfl rfl rfl) (zaa rfl (zas rfl rfl rfl) (s_ln ?_)))))))
 refine s_cm ?_
 refine s_mv ?_
 refine aops_mid 5 (⟨31,[],[(1,.one (.cptr [.val (Sv a0.Name),CV.ls c_Field a0.Fields,CV.ls zad a0.Methods])),(12,vB ((decide (((a0.Fields.length:Nat):Int)>8))||(decide (((a0.Methods.length:Nat):Int)>16))))],[]⟩:ASt) ?_ ?_
 ·rcases bool_or ((decide (((a0.Fields.length:Nat):Int)>8))) with q1|q1
  ·skip
   iterate 4 refine np q1 ?_
   refine s_py q1 (aops_nil ?_)
   exact wq q1
  refine aops_yes rfl rfl rfl rfl q1 (zaM rfl rfl rfl) (aops_yes rfl rfl rfl rfl q1 (zas rfl rfl rfl) (y_ln q1 ?_))
  refine y_cm q1 ?_
  refine s_pn q1 (aops_nil ?_)
  exact wq q1
 refine aops_nil ?_
 refine aw_if h (fun c2 h=>?_) (fun c2 h=>?_)
 ·refine aw_seq (aw_region (s_sa (aops_nil ?_)))
  cases sj h
  exact aw_ret ⟨rfl,rv r1⟩
 refine aw_skip (aw_seq (aw_seq (aw_region (zaa rfl (zaM rfl rfl rfl) (zaa rfl (zas rfl rfl rfl) (s_ln ?_))))))
 refine zaa rfl (zeK [.cptr [.val (Sv a0.Name),CV.ls c_Field a0.Fields,CV.ls zad a0.Methods]] rfl rfl rfl) ?_
 obtain ⟨x3,hx3,h⟩:=bind_s h
 refine zaa rfl (ev_call_v (zdX hx3) rfl [] ai rfl rfl rfl (.inl rfl) rfl) (s_nt ?_)
 refine s_mv ?_
 obtain ⟨o4,j4,h⟩:=bind_s h
 refine aops_cutE 7 o4 (fun x4=>(⟨31,[],[(1,.one (.cptr [.val (Sv a0.Name),CV.ls c_Field a0.Fields,CV.ls zad a0.Methods])),(26,vB x4)],[]⟩:ASt)) ?_ ?_
 ·refine aops_nil ?_
  refine aw_if h (fun c5 h=>?_) (fun c5 h=>?_)
  ·refine aw_seq (aw_region (s_sa (aops_nil ?_)))
   cases sj h
   exact aw_ret ⟨rfl,rv r1⟩
  refine aw_skip (aw_seq (aw_region (zaa rfl (zaM rfl rfl rfl) (zaa rfl (zas rfl rfl rfl) ?_))))
  obtain ⟨x6,hx6,h⟩:=bind_s h
  refine zaa rfl (ev_call_v (zcG hx6) rfl [] ai rfl rfl rfl (.inl rfl) rfl) (s_nt ?_)
  refine s_sa (aops_nil ?_)
  cases sj h
  exact aw_ret ⟨rfl,rv r1⟩
 rcases co j4 with ⟨q4,j4⟩|⟨q4,j4⟩
 ·iterate 6 refine np q4 ?_
  refine s_py q4 (aops_nil ?_)
  exact jx j4 wk
 refine aops_yes rfl rfl rfl rfl q4 (zaM rfl rfl rfl) (aops_yes rfl rfl rfl rfl q4 (zas rfl rfl rfl) (y_ln q4 ?_))
 refine aops_yes rfl rfl rfl rfl q4 (zeK [.cptr [.val (Sv a0.Name),CV.ls c_Field a0.Fields,CV.ls zad a0.Methods]] rfl rfl rfl) ?_
 obtain ⟨x7,hx7,j4⟩:=bind_s j4
 refine aops_yes rfl rfl rfl rfl q4 (ev_call_v (zeb hx7) rfl [] ai rfl rfl rfl (.inl rfl) rfl) (y_nt q4 ?_)
 refine s_pn q4 (aops_nil ?_)
 exact jx j4 wk
set_option maxHeartbeats 2000000 in
theorem zgi {k:Nat} {a0:CodeType} {r:Bool} (h:zda k a0=some r):FnC Tryz.prog 42 [.agg (zab a0)] [] (Det (vB r) []):=by
 unfold zda at h
 refine fn_intro' 6 Tryz.func42 rfl rfl rfl (aw_seq (aw_region (zaa rfl (st_box 0 rfl rfl rfl rfl) (s_sa ?_))))
 refine aops_nil (aw_seq (aw_region (s_ls [_,_,_] ?_)))
 obtain ⟨x1,hx1,h⟩:=bind_s h
 refine zaa rfl (ev_call_v (zgB hx1) rfl [] ai rfl rfl rfl (.inl rfl) rfl) (s_nt ?_)
 refine s_sa (aops_nil ?_)
 cases sj h
 exact aw_ret ⟨rfl,rv r1⟩
set_option maxHeartbeats 2000000 in
theorem zcx {k:Nat} {a0:List CodeType} {r:Int} (h:zaN k a0=some r):FnC Tryz.prog 68 [.one (CV.ls zab a0),.one (.fn 42 [])] [] (Det (vI r) []):=by
 unfold zaN at h
 refine fn_intro' 19 Tryz.func68 rfl rfl rfl (aw_seq (aw_region (s_sa ?_)))
 refine aops_nil (aw_seq (aw_seq (aw_region (s_mv ?_))))
 refine s_ln ?_
 refine s_mv (aops_nil (aw_block ?_))
 obtain ⟨o1,ho1,h⟩:=bind_s h
 refine aw_loop_x (ι:={p:Nat×Nat // zap k a0 p.1 p.2=some o1}) (fun p=>(⟨19,[],[(0,.one (CV.ls zab a0)),(1,.one (.fn 42 [])),(7,vI ((a0.length:Nat):Int)),(8,vI ((p.1.2:Nat):Int))],[]⟩:ASt)) (fun p=>p.1.1) ⟨(k,0),ho1⟩ wk 0 (ε:=Unit) (fun x=>(⟨19,[],[],[]⟩:ASt)) (fun x=>Sum.inl x=o1) (fun _ _ w h=>aw_weak w h) ?_ ?_
 ·intro x1_0 hI1
  subst hI1
  replace h:=onS_l h
  refine aw_seq (aw_region (s_sa (aops_nil ?_)))
  cases sj h
  exact aw_ret ⟨rfl,rv r1⟩
 intro p1
 obtain ⟨⟨n1,s1_0⟩,l1⟩:=p1
 replace l1:zap k a0 n1 s1_0=some o1:=l1
 rcases n1 with _|n1
 ·exact absurd (show none=some o1 from l1) nofun
 rw [zap] at l1
 refine aw_seq (aw_region (s_cm (aops_nil (aw_seq ?_))))
 refine aw_if l1 (fun c2 l1=>?_) (fun c2 l1=>?_)
 ·refine aw_skip (aw_seq (aw_block (aw_seq (aw_region (s_mv ?_)))))
  refine s_sa (aops_nil (aw_seq (aw_region ?_)))
  iterate 3 refine s_mv ?_
  obtain ⟨g3,l1⟩:=ifp_s l1
  refine zaa rfl (zaf rfl rfl rfl g3 rfl rfl) (zaa rfl (zaI (ds:=[_,_,_]) rfl rfl rfl rfl) ?_)
  obtain ⟨x4,hx4,l1⟩:=bind_s l1
  refine zaa rfl (ev_callee rfl (ev_call_v (zgi hx4) rfl [] ai rfl rfl rfl (.inl rfl) rfl)) (aops_nil ?_)
  refine aw_if l1 (fun c5 l1=>?_) (fun c5 l1=>?_)
  ·refine aw_seq (aw_region (s_mv ?_))
   refine s_sa (aops_nil ?_)
   cases sj l1
   replace h:=onS_r h
   cases sj h
   exact aw_ret ⟨rfl,rv r1⟩
  refine aw_skip (aw_region ?_)
  obtain ⟨g6,l1⟩:=ifp_s l1
  refine zaa rfl (ev_add rfl rfl rfl (nat_add g6)) (s_mv (aops_nil ?_))
  exact ⟨⟨(n1,(s1_0+1)),l1⟩,Nat.lt_succ_self _,wk⟩
 refine aw_exit ?_
 show ∃_x:Unit,_=_∧Weak _ _
 exact ⟨(),sj l1,wk⟩
set_option maxHeartbeats 2000000 in
theorem zcu {k:Nat} {a0:List CodeType} {r:Bool} (h:zay k a0=some r):FnC Tryz.prog 41 [.one (CV.ls zab a0),.one (.fn 42 [])] [] (Det (vB r) []):=by
 unfold zay at h
 refine fn_intro' 9 Tryz.func41 rfl rfl rfl (aw_seq (aw_region (s_sa ?_)))
 refine aops_nil (aw_seq (aw_region ?_))
 iterate 2 refine s_mv ?_
 obtain ⟨x1,hx1,h⟩:=bind_s h
 refine zaa rfl (ev_call_v (zcx hx1) rfl [] ai rfl rfl rfl (.inl rfl) rfl) (s_cm ?_)
 refine s_sa (aops_nil ?_)
 cases sj h
 exact aw_ret ⟨rfl,rv r1⟩
set_option maxHeartbeats 2000000 in
theorem zem {k:Nat} {a0:Code} {r:Bool} (h:zcV k a0=some r):FnC Tryz.prog 16 [.agg [CV.ls zab a0.Types]] [] (Det (vB r) []):=by
 unfold zcV at h
 refine fn_intro' 55 Tryz.func16 rfl rfl rfl (aw_seq (aw_region (zaa rfl (st_box 0 rfl rfl rfl rfl) (s_sa ?_))))
 refine aops_nil (aw_seq (aw_frbox 0 rfl (aw_seq (aw_region (zaa rfl (zaM rfl rfl rfl) (zaa rfl (zas rfl rfl rfl) (s_ln ?_)))))))
 refine s_cm ?_
 refine s_mv ?_
 obtain ⟨o1,j1,h⟩:=bind_s h
 refine aops_cutE 7 o1 (fun x1=>(⟨55,[],[(1,.one (.cptr [CV.ls zab a0.Types])),(19,vB x1)],[]⟩:ASt)) ?_ ?_
 ·refine s_mv ?_
  obtain ⟨o2,j2,h⟩:=bind_s h
  refine aops_cutE 4 o2 (fun x2=>(⟨55,[],[(1,.one (.cptr [CV.ls zab a0.Types])),(24,vB x2)],[]⟩:ASt)) ?_ ?_
  ·refine aops_nil ?_
   refine aw_if h (fun c3 h=>?_) (fun c3 h=>?_)
   ·refine aw_seq (aw_region (s_sa (aops_nil ?_)))
    cases sj h
    exact aw_ret ⟨rfl,rv r1⟩
   refine aw_skip (aw_seq (aw_region (s_sa ?_)))
   refine aops_nil (aw_seq (aw_seq (aw_region (zaa rfl (zaM rfl rfl rfl) (zaa rfl (zas rfl rfl rfl) (s_ln ?_))))))
   refine s_mv (aops_nil (aw_block ?_))
   obtain ⟨o4,ho4,h⟩:=bind_s h
   refine aw_loop_x (ι:={p:Nat×Nat×Nat // zbY k a0 p.1 p.2.1 p.2.2=some o4}) (fun p=>(⟨55,[],[(1,.one (.cptr [CV.ls zab a0.Types])),(3,vI ((p.1.2.1:Nat):Int)),(26,.one (CV.ls zab a0.Types)),(27,vI ((a0.Types.length:Nat):Int)),(28,vI ((p.1.2.2:Nat):Int))],[]⟩:ASt)) (fun p=>p.1.1) ⟨(k,0,0),ho4⟩ wk 0 (ε:=Unit) (fun x=>(⟨55,[],[],[]⟩:ASt)) (fun x=>Sum.inl x=o4) (fun _ _ w h=>aw_weak w h) ?_ ?_
   ·intro x4_0 hI4
    subst hI4
    replace h:=onS_l h
    refine aw_seq (aw_region (s_sa (aops_nil ?_)))
    cases sj h
    exact aw_ret ⟨rfl,rv r1⟩
   intro p4
   obtain ⟨⟨n4,s4_0,s4_1⟩,l4⟩:=p4
   replace l4:zbY k a0 n4 s4_0 s4_1=some o4:=l4
   rcases n4 with _|n4
   ·exact absurd (show none=some o4 from l4) nofun
   rw [zbY] at l4
   refine aw_seq (aw_region (s_cm (aops_nil (aw_seq ?_))))
   refine aw_if l4 (fun c5 l4=>?_) (fun c5 l4=>?_)
   ·refine aw_skip ?_
    obtain ⟨o6,j6,l4⟩:=bind_s l4
    refine aw_cut (ε:=Nat) (fun x=>(⟨55,[],[(1,.one (.cptr [CV.ls zab a0.Types])),(3,vI ((x:Nat):Int)),(26,.one (CV.ls zab a0.Types)),(27,vI ((a0.Types.length:Nat):Int)),(28,vI ((s4_1:Nat):Int))],[]⟩:ASt)) (fun x=>Sum.inl x=o6) ?_ ?_
    ·intro x6_0 hI6
     subst hI6
     replace l4:=onS_l l4
     refine aw_region ?_
     obtain ⟨g7,l4⟩:=ifp_s l4
     refine zaa rfl (ev_add rfl rfl rfl (nat_add g7)) (s_mv (aops_nil ?_))
     exact ⟨⟨(n4,x6_0,(s4_1+1)),l4⟩,Nat.lt_succ_self _,wk⟩
    refine aw_block (aw_seq (aw_region ?_))
    obtain ⟨g8,j6⟩:=ifp_s j6
    refine zaa rfl (zaf rfl rfl rfl g8 rfl rfl) (zaa rfl (zaI (ds:=[_,_,_]) rfl rfl rfl rfl) ?_)
    refine zaa rfl (st_alloc (cs:=[.val (Sv []),.val (.slice none 0 0),.val (.slice none 0 0)]) 1 rfl rfl rfl rfl rfl) (s_st [_,_,_] ?_)
    refine aops_nil (aw_seq (aw_region (s_fd ?_)))
    refine s_ld ?_
    refine s_ln ?_
    refine s_mv (aops_nil (aw_block ?_))
    obtain ⟨o9,ho9,j6⟩:=bind_s j6
    refine aw_loop (ι:={p:Nat×Nat×Nat // zbX k a0 s4_1 p.1 p.2.1 p.2.2=some o9}) (fun p=>(⟨55,[],[(1,.one (.cptr [CV.ls zab a0.Types])),(3,vI ((p.1.2.1:Nat):Int)),(5,.one (.ptr 1 0)),(26,.one (CV.ls zab a0.Types)),(27,vI ((a0.Types.length:Nat):Int)),(28,vI ((s4_1:Nat):Int)),(33,.one (CV.ls zad ((a0.Types.getD s4_1 default).Methods))),(34,vI ((((a0.Types.getD s4_1 default).Methods).length:Nat):Int)),(35,vI ((p.1.2.2:Nat):Int))],[(1,some (.box (zab (a0.Types.getD s4_1 default))))]⟩:ASt)) (fun p=>p.1.1) ⟨(k,s4_0,0),ho9⟩ wk ?_
    intro p9
    obtain ⟨⟨n9,s9_0,s9_1⟩,l9⟩:=p9
    replace l9:zbX k a0 s4_1 n9 s9_0 s9_1=some o9:=l9
    rcases n9 with _|n9
    ·exact absurd (show none=some o9 from l9) nofun
    rw [zbX] at l9
    refine aw_seq (aw_region (s_cm (aops_nil (aw_seq ?_))))
    refine aw_if l9 (fun c10 l9=>?_) (fun c10 l9=>?_)
    ·refine aw_skip (aw_seq (aw_block (aw_seq (aw_region ?_))))
     obtain ⟨g11,l9⟩:=ifp_s l9
     refine zaa rfl (zaf rfl rfl rfl g11 rfl rfl) (zaa rfl (zaI (ds:=[_,_,_,_,_]) rfl rfl rfl rfl) ?_)
     refine zaa rfl (st_alloc (cs:=[.val (Sv []),.val (.slice none 0 0),cI 0,.val (.slice none 0 0),.val (.slice none 0 0)]) 2 rfl rfl rfl rfl rfl) (s_st [_,_,_,_,_] ?_)
     refine aops_nil (aw_seq (aw_region (s_mv ?_)))
     refine s_fd ?_
     refine s_ld ?_
     refine s_ln ?_
     obtain ⟨g12,l9⟩:=ifp_s l9
     refine zaa rfl (ev_add rfl rfl rfl (nat_add g12)) (s_sa ?_)
     refine aops_nil (aw_seq (aw_region (s_mv ?_)))
     refine s_cm ?_
     refine s_mv ?_
     obtain ⟨o13,j13,l9⟩:=bind_s l9
     refine aops_cutE 6 o13 (fun x13=>(⟨55,[],[(1,.one (.cptr [CV.ls zab a0.Types])),(3,vI (((s9_0+(((((a0.Types.getD s4_1 default).Methods).getD s9_1 default).Code).length)):Nat):Int)),(5,.one (.ptr 1 0)),(26,.one (CV.ls zab a0.Types)),(27,vI ((a0.Types.length:Nat):Int)),(28,vI ((s4_1:Nat):Int)),(33,.one (CV.ls zad ((a0.Types.getD s4_1 default).Methods))),(34,vI ((((a0.Types.getD s4_1 default).Methods).length:Nat):Int)),(35,vI ((s9_1:Nat):Int)),(52,vB x13)],[(1,some (.box (zab (a0.Types.getD s4_1 default))))]⟩:ASt)) ?_ ?_
     ·refine aops_nil ?_
      refine aw_if l9 (fun c14 l9=>?_) (fun c14 l9=>?_)
      ·refine aw_seq (aw_region (s_sa (aops_nil ?_)))
       cases sj l9
       replace j6:=onS_r j6
       cases sj j6
       replace l4:=onS_r l4
       cases sj l4
       replace h:=onS_r h
       cases sj h
       exact aw_ret ⟨rfl,rv r1⟩
      refine aw_skip (aw_region ?_)
      obtain ⟨g15,l9⟩:=ifp_s l9
      refine zaa rfl (ev_add rfl rfl rfl (nat_add g15)) (s_mv (aops_nil ?_))
      exact ⟨⟨(n9,(s9_0+(((((a0.Types.getD s4_1 default).Methods).getD s9_1 default).Code).length)),(s9_1+1)),l9⟩,Nat.lt_succ_self _,wk⟩
     rcases co j13 with ⟨q13,j13⟩|⟨q13,j13⟩
     ·iterate 5 refine np q13 ?_
      refine s_py q13 (aops_nil ?_)
      exact jx j13 wk
     refine aops_yes rfl rfl rfl rfl q13 (zaI (ds:=[_]) rfl rfl rfl rfl) (aops_yes rfl rfl rfl rfl q13 (ev_loads (ds:=[_,_,_]) rfl rfl rfl rfl rfl) ?_)
     refine aops_yes rfl rfl rfl rfl q13 (ev_loads (ds:=[_,_,_,_,_]) rfl rfl rfl rfl rfl) ?_
     obtain ⟨x16,hx16,j13⟩:=bind_s j13
     refine aops_yes rfl rfl rfl rfl q13 (ev_call_v (zgd hx16) rfl [] ai rfl rfl rfl (.inl rfl) rfl) (y_nt q13 ?_)
     refine s_pn q13 (aops_nil ?_)
     exact jx j13 wk
    refine aw_exit ?_
    have e9:=sj l9
    subst e9
    replace j6:=onS_l j6
    show ∃_x:Nat,_=_∧Weak _ _
    exact ⟨s9_0,sj j6,wk⟩
   refine aw_exit ?_
   show ∃_x:Unit,_=_∧Weak _ _
   exact ⟨(),sj l4,wk⟩
  rcases co j2 with ⟨q2,j2⟩|⟨q2,j2⟩
  ·iterate 3 refine np q2 ?_
   refine s_py q2 (aops_nil ?_)
   exact jx j2 wk
  refine aops_yes rfl rfl rfl rfl q2 (zaM rfl rfl rfl) (aops_yes rfl rfl rfl rfl q2 (zas rfl rfl rfl) ?_)
  obtain ⟨x17,hx17,j2⟩:=bind_s j2
  refine aops_yes rfl rfl rfl rfl q2 (ev_call_v (zcu hx17) rfl [] ai rfl rfl rfl (.inl rfl) rfl) (s_pn q2 (aops_nil ?_))
  exact jx j2 wk
 rcases co j1 with ⟨q1,j1⟩|⟨q1,j1⟩
 ·iterate 6 refine np q1 ?_
  refine s_py q1 (aops_nil ?_)
  exact jx j1 wk
 refine aops_yes rfl rfl rfl rfl q1 (zaM rfl rfl rfl) (aops_yes rfl rfl rfl rfl q1 (zas rfl rfl rfl) (y_ln q1 ?_))
 refine aops_yes rfl rfl rfl rfl q1 (zeK [.cptr [CV.ls zab a0.Types]] rfl rfl rfl) ?_
 obtain ⟨x18,hx18,j1⟩:=bind_s j1
 refine aops_yes rfl rfl rfl rfl q1 (ev_call_v (zdY hx18) rfl [] ai rfl rfl rfl (.inl rfl) rfl) (y_nt q1 ?_)
 refine s_pn q1 (aops_nil ?_)
 exact jx j1 wk
end Md
end Go.Proofs.YtclffekkjfhpdaaGreat

