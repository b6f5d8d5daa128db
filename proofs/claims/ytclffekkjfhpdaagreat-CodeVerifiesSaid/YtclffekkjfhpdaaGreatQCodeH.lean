import Derived.Test.YtclffekkjfhpdaaGreatQAbsSw
import Derived.Test.YtclffekkjfhpdaaGreatQMo
import Derived.Test.YtclffekkjfhpdaaGreatQTy
import Derived.Test.YtclffekkjfhpdaaGreatQAbsS
import Derived.Test.YtclffekkjfhpdaaGreatQAbsF
import Derived.Test.YtclffekkjfhpdaaGreatQCodeB
namespace Go.Proofs.YtclffekkjfhpdaaGreat
open Go.ChangeShapes Go.WideShapes Go.RowKit
open Abs
set_option linter.unusedVariables false
set_option linter.unusedSimpArgs false
set_option maxRecDepth 10000
namespace Md
set_option maxHeartbeats 2000000 in
theorem zha {k:Nat} {a0:Field} {a1:Field} {r:Bool} (h:zfC k a0 a1=some r):FnC Tryz.prog 29 [.agg (c_Field a0),.agg (c_Field a1)] [] (Det (vB r) []):=by
 unfold zfC at h
 refine fn_intro' 24 Tryz.func29 rfl rfl rfl (aw_seq (aw_region (zaa rfl (st_box 0 rfl rfl rfl rfl) (zaa rfl (st_box 1 rfl rfl rfl rfl) (s_sa ?_)))))
 refine aops_nil (aw_seq (aw_region (s_fd ?_)))
 refine s_ld ?_
 refine s_fd ?_
 refine s_ld ?_
 refine zaa rfl (st_str_eq rfl rfl rfl) (s_mv ?_)
 refine bo 6 ((decide (a0.Name=a1.Name))&&(a0.Kind==a1.Kind)) ?_
 refine s_mv ?_
 obtain ⟨o2,j2,h⟩:=bind_s h
 refine aops_cutE 6 o2 (fun x2=>(⟨24,[],[(4,vB false),(23,vB x2)],[]⟩:ASt)) ?_ ?_
 ·refine s_sa (aops_nil ?_)
  cases sj h
  exact aw_ret ⟨rfl,rv r1⟩
 rcases co j2 with ⟨q2,j2⟩|⟨q2,j2⟩
 ·refine y_fd q2 ?_
  refine aops_yes rfl rfl rfl rfl q2 (ev_loads (ds:=[_,_,_,_,_]) rfl rfl rfl rfl rfl) (y_fd q2 ?_)
  refine aops_yes rfl rfl rfl rfl q2 (ev_loads (ds:=[_,_,_,_,_]) rfl rfl rfl rfl rfl) ?_
  obtain ⟨x3,hx3,j2⟩:=bind_s j2
  refine aops_yes rfl rfl rfl rfl q2 (ev_call_v (zfc hx3) rfl [] ai rfl rfl rfl (.inl rfl) rfl) (s_py q2 (aops_nil ?_))
  exact jx j2 wk
 iterate 5 refine np q2 ?_
 refine s_pn q2 (aops_nil ?_)
 exact jx j2 wk
set_option maxHeartbeats 2000000 in
theorem zhh {k:Nat} {a0:Instr} {a1:Instr} {r:Bool} (h:zfA k a0 a1=some r):FnC Tryz.prog 31 [.agg (c_Instr a0),.agg (c_Instr a1)] [] (Det (vB r) []):=by
 unfold zfA at h
 refine fn_intro' 31 Tryz.func31 rfl rfl rfl (aw_seq (aw_region (zaa rfl (st_box 0 rfl rfl rfl rfl) (zaa rfl (st_box 1 rfl rfl rfl rfl) (s_sa ?_)))))
 refine aops_nil (aw_seq (aw_region (s_fd ?_)))
 refine s_ld ?_
 refine s_fd ?_
 refine s_ld ?_
 refine s_cm ?_
 refine s_mv ?_
 refine bo 6 ((a0.Op==a1.Op)&&(a0.A==a1.A)) ?_
 refine s_mv ?_
 refine bo 6 (((a0.Op==a1.Op)&&(a0.A==a1.A))&&(a0.B==a1.B)) ?_
 refine s_mv ?_
 obtain ⟨o3,j3,h⟩:=bind_s h
 refine aops_cutE 6 o3 (fun x3=>(⟨31,[],[(4,vB false),(30,vB x3)],[]⟩:ASt)) ?_ ?_
 ·refine s_sa (aops_nil ?_)
  cases sj h
  exact aw_ret ⟨rfl,rv r1⟩
 rcases co j3 with ⟨q3,j3⟩|⟨q3,j3⟩
 ·refine y_fd q3 ?_
  refine aops_yes rfl rfl rfl rfl q3 (ev_loads (ds:=[_,_,_,_,_]) rfl rfl rfl rfl rfl) (y_fd q3 ?_)
  refine aops_yes rfl rfl rfl rfl q3 (ev_loads (ds:=[_,_,_,_,_]) rfl rfl rfl rfl rfl) ?_
  obtain ⟨x4,hx4,j3⟩:=bind_s j3
  refine aops_yes rfl rfl rfl rfl q3 (ev_call_v (zfc hx4) rfl [] ai rfl rfl rfl (.inl rfl) rfl) (s_py q3 (aops_nil ?_))
  exact jx j3 wk
 iterate 5 refine np q3 ?_
 refine s_pn q3 (aops_nil ?_)
 exact jx j3 wk
set_option maxHeartbeats 2000000 in
theorem zce {k:Nat} {a0:List Instr} {a1:List Instr} {r:Bool} (h:zaY k a0 a1=some r):FnC Tryz.prog 34 [.one (CV.ls c_Instr a0),.one (CV.ls c_Instr a1),.one (.fn 31 [])] [] (Det (vB r) []):=by
 unfold zaY at h
 refine fn_intro' 32 Tryz.func34 rfl rfl rfl (aw_seq (aw_region (s_sa ?_)))
 refine aops_nil (aw_seq (aw_seq (aw_region (s_mv ?_))))
 refine s_ln ?_
 refine s_mv ?_
 refine s_ln ?_
 refine s_cm (aops_nil ?_)
 refine aw_if h (fun c1 h=>?_) (fun c1 h=>?_)
 ·refine aw_seq (aw_region (s_sa (aops_nil ?_)))
  cases sj h
  exact aw_ret ⟨rfl,rv r1⟩
 refine aw_skip (aw_seq (aw_seq (aw_region (s_mv ?_))))
 refine s_ln ?_
 refine s_mv (aops_nil (aw_block ?_))
 obtain ⟨o2,ho2,h⟩:=bind_s h
 refine aw_loop_x (ι:={p:Nat×Nat // zar k a0 a1 p.1 p.2=some o2}) (fun p=>(⟨32,[],[(1,.one (CV.ls c_Instr a1)),(2,.one (.fn 31 [])),(15,.one (CV.ls c_Instr a0)),(16,vI ((a0.length:Nat):Int)),(17,vI ((p.1.2:Nat):Int))],[]⟩:ASt)) (fun p=>p.1.1) ⟨(k,0),ho2⟩ wk 0 (ε:=Unit) (fun x=>(⟨32,[],[],[]⟩:ASt)) (fun x=>Sum.inl x=o2) (fun _ _ w h=>aw_weak w h) ?_ ?_
 ·intro x2_0 hI2
  subst hI2
  replace h:=onS_l h
  refine aw_seq (aw_region (s_sa (aops_nil ?_)))
  cases sj h
  exact aw_ret ⟨rfl,rv r1⟩
 intro p2
 obtain ⟨⟨n2,s2_0⟩,l2⟩:=p2
 replace l2:zar k a0 a1 n2 s2_0=some o2:=l2
 rcases n2 with _|n2
 ·exact absurd (show none=some o2 from l2) nofun
 rw [zar] at l2
 refine aw_seq (aw_region (s_cm (aops_nil (aw_seq ?_))))
 refine aw_if l2 (fun c3 l2=>?_) (fun c3 l2=>?_)
 ·refine aw_skip (aw_seq (aw_block (aw_seq (aw_region (s_mv ?_)))))
  obtain ⟨g4,l2⟩:=ifp_s l2
  refine zaa rfl (zaf rfl rfl rfl g4 rfl rfl) (zaa rfl (zaI (ds:=[_,_,_,_,_,_,_,_]) rfl rfl rfl rfl) ?_)
  refine zaa rfl (st_alloc (cs:=[cI 0,cI 0,cI 0,cI 0,cI 0,.val (Sv []),.val (.slice none 0 0),.val (.slice none 0 0)]) 0 rfl rfl rfl rfl rfl) (s_sa ?_)
  refine s_st [_,_,_,_,_,_,_,_] (aops_nil (aw_seq (aw_region ?_)))
  iterate 2 refine s_mv ?_
  obtain ⟨g5,l2⟩:=ifp_s l2
  refine zaa rfl (zaf rfl rfl rfl g5 rfl rfl) (zaa rfl (zaI (ds:=[_,_,_,_,_,_,_,_]) rfl rfl rfl rfl) ?_)
  refine zaa rfl (st_alloc (cs:=[cI 0,cI 0,cI 0,cI 0,cI 0,.val (Sv []),.val (.slice none 0 0),.val (.slice none 0 0)]) 1 rfl rfl rfl rfl rfl) (s_st [_,_,_,_,_,_,_,_] ?_)
  refine aops_nil (aw_seq (aw_region (s_mv ?_)))
  iterate 2 refine s_ls [_,_,_,_,_,_,_,_] ?_
  obtain ⟨x6,hx6,l2⟩:=bind_s l2
  refine zaa rfl (ev_callee rfl (ev_call_v (zhh hx6) rfl [] ai rfl rfl rfl (.inl rfl) rfl)) (s_nt (aops_nil ?_))
  refine aw_if l2 (fun c7 l2=>?_) (fun c7 l2=>?_)
  ·refine aw_seq (aw_region (s_sa (aops_nil ?_)))
   cases sj l2
   replace h:=onS_r h
   cases sj h
   exact aw_ret ⟨rfl,rv r1⟩
  refine aw_skip (aw_region ?_)
  obtain ⟨g8,l2⟩:=ifp_s l2
  refine zaa rfl (ev_add rfl rfl rfl (nat_add g8)) (s_mv (aops_nil ?_))
  exact ⟨⟨(n2,(s2_0+1)),l2⟩,Nat.lt_succ_self _,wk⟩
 refine aw_exit ?_
 show ∃_x:Unit,_=_∧Weak _ _
 exact ⟨(),sj l2,wk⟩
set_option maxHeartbeats 2000000 in
theorem zhf {k:Nat} {a0:CodeMethod} {a1:CodeMethod} {r:Bool} (h:zfH k a0 a1=some r):FnC Tryz.prog 32 [.agg (zad a0),.agg (zad a1),.one (.cptr [.fn 31 []])] [] (Det (vB r) []):=by
 unfold zfH at h
 refine fn_intro' 40 Tryz.func32 rfl rfl rfl (aw_seq (aw_region (zaa rfl (st_box 0 rfl rfl rfl rfl) (zaa rfl (st_box 1 rfl rfl rfl rfl) (s_sa ?_)))))
 refine aops_nil (aw_seq (aw_region (s_fd ?_)))
 refine s_ld ?_
 refine s_fd ?_
 refine s_ld ?_
 refine zaa rfl (st_str_eq rfl rfl rfl) (s_mv ?_)
 refine bo 6 ((decide (a0.Name=a1.Name))&&(a0.Result==a1.Result)) ?_
 refine s_mv ?_
 obtain ⟨o2,j2,h⟩:=bind_s h
 refine aops_cutE 6 o2 (fun x2=>(⟨40,[],[(2,.one (.cptr [.fn 31 []])),(3,.one (.ptr 0 0)),(4,.one (.ptr 1 0)),(5,vB false),(24,vB x2)],[(0,some (.box (zad a0))),(1,some (.box (zad a1)))]⟩:ASt)) ?_ ?_
 ·refine s_mv ?_
  obtain ⟨o3,j3,h⟩:=bind_s h
  refine aops_cutE 6 o3 (fun x3=>(⟨40,[],[(2,.one (.cptr [.fn 31 []])),(3,.one (.ptr 0 0)),(4,.one (.ptr 1 0)),(5,vB false),(31,vB x3)],[(0,some (.box (zad a0))),(1,some (.box (zad a1)))]⟩:ASt)) ?_ ?_
  ·refine s_mv ?_
   obtain ⟨o4,j4,h⟩:=bind_s h
   refine aops_cutE 7 o4 (fun x4=>(⟨40,[],[(5,vB false),(39,vB x4)],[]⟩:ASt)) ?_ ?_
   ·refine s_sa (aops_nil ?_)
    cases sj h
    exact aw_ret ⟨rfl,rv r1⟩
   rcases co j4 with ⟨q4,j4⟩|⟨q4,j4⟩
   ·refine y_fd q4 ?_
    refine y_ld q4 ?_
    refine y_fd q4 ?_
    refine y_ld q4 ?_
    refine aops_yes rfl rfl rfl rfl q4 (zas rfl rfl rfl) ?_
    obtain ⟨x5,hx5,j4⟩:=bind_s j4
    refine aops_yes rfl rfl rfl rfl q4 (ev_call_v (zce hx5) rfl [] ai rfl rfl rfl (.inl rfl) rfl) (s_py q4 (aops_nil ?_))
    exact jx j4 wk
   iterate 6 refine np q4 ?_
   refine s_pn q4 (aops_nil ?_)
   exact jx j4 wk
  rcases co j3 with ⟨q3,j3⟩|⟨q3,j3⟩
  ·refine y_fd q3 ?_
   refine y_ld q3 ?_
   refine y_fd q3 ?_
   refine y_ld q3 ?_
   obtain ⟨x6,hx6,j3⟩:=bind_s j3
   refine aops_yes rfl rfl rfl rfl q3 (ev_call_v (zdV hx6) rfl [] ai rfl rfl rfl (.inl rfl) rfl) (s_py q3 (aops_nil ?_))
   exact jx j3 wk
  iterate 5 refine np q3 ?_
  refine s_pn q3 (aops_nil ?_)
  exact jx j3 wk
 rcases co j2 with ⟨q2,j2⟩|⟨q2,j2⟩
 ·refine y_fd q2 ?_
  refine y_ld q2 ?_
  refine y_fd q2 ?_
  refine y_ld q2 ?_
  obtain ⟨x7,hx7,j2⟩:=bind_s j2
  refine aops_yes rfl rfl rfl rfl q2 (ev_call_v (zdV hx7) rfl [] ai rfl rfl rfl (.inl rfl) rfl) (s_py q2 (aops_nil ?_))
  exact jx j2 wk
 iterate 5 refine np q2 ?_
 refine s_pn q2 (aops_nil ?_)
 exact jx j2 wk
set_option maxHeartbeats 2000000 in
theorem zcd {k:Nat} {a0:List Field} {a1:List Field} {r:Bool} (h:zaX k a0 a1=some r):FnC Tryz.prog 37 [.one (CV.ls c_Field a0),.one (CV.ls c_Field a1),.one (.fn 29 [])] [] (Det (vB r) []):=by
 unfold zaX at h
 refine fn_intro' 32 Tryz.func37 rfl rfl rfl (aw_seq (aw_region (s_sa ?_)))
 refine aops_nil (aw_seq (aw_seq (aw_region (s_mv ?_))))
 refine s_ln ?_
 refine s_mv ?_
 refine s_ln ?_
 refine s_cm (aops_nil ?_)
 refine aw_if h (fun c1 h=>?_) (fun c1 h=>?_)
 ·refine aw_seq (aw_region (s_sa (aops_nil ?_)))
  cases sj h
  exact aw_ret ⟨rfl,rv r1⟩
 refine aw_skip (aw_seq (aw_seq (aw_region (s_mv ?_))))
 refine s_ln ?_
 refine s_mv (aops_nil (aw_block ?_))
 obtain ⟨o2,ho2,h⟩:=bind_s h
 refine aw_loop_x (ι:={p:Nat×Nat // zaq k a0 a1 p.1 p.2=some o2}) (fun p=>(⟨32,[],[(1,.one (CV.ls c_Field a1)),(2,.one (.fn 29 [])),(15,.one (CV.ls c_Field a0)),(16,vI ((a0.length:Nat):Int)),(17,vI ((p.1.2:Nat):Int))],[]⟩:ASt)) (fun p=>p.1.1) ⟨(k,0),ho2⟩ wk 0 (ε:=Unit) (fun x=>(⟨32,[],[],[]⟩:ASt)) (fun x=>Sum.inl x=o2) (fun _ _ w h=>aw_weak w h) ?_ ?_
 ·intro x2_0 hI2
  subst hI2
  replace h:=onS_l h
  refine aw_seq (aw_region (s_sa (aops_nil ?_)))
  cases sj h
  exact aw_ret ⟨rfl,rv r1⟩
 intro p2
 obtain ⟨⟨n2,s2_0⟩,l2⟩:=p2
 replace l2:zaq k a0 a1 n2 s2_0=some o2:=l2
 rcases n2 with _|n2
 ·exact absurd (show none=some o2 from l2) nofun
 rw [zaq] at l2
 refine aw_seq (aw_region (s_cm (aops_nil (aw_seq ?_))))
 refine aw_if l2 (fun c3 l2=>?_) (fun c3 l2=>?_)
 ·refine aw_skip (aw_seq (aw_block (aw_seq (aw_region (s_mv ?_)))))
  obtain ⟨g4,l2⟩:=ifp_s l2
  refine zaa rfl (zaf rfl rfl rfl g4 rfl rfl) (zaa rfl (zaI (ds:=[_,_,_,_,_,_,_]) rfl rfl rfl rfl) ?_)
  refine zaa rfl (st_alloc (cs:=[.val (Sv []),cI 0,cI 0,cI 0,.val (Sv []),.val (.slice none 0 0),.val (.slice none 0 0)]) 0 rfl rfl rfl rfl rfl) (s_sa ?_)
  refine s_st [_,_,_,_,_,_,_] (aops_nil (aw_seq (aw_region ?_)))
  iterate 2 refine s_mv ?_
  obtain ⟨g5,l2⟩:=ifp_s l2
  refine zaa rfl (zaf rfl rfl rfl g5 rfl rfl) (zaa rfl (zaI (ds:=[_,_,_,_,_,_,_]) rfl rfl rfl rfl) ?_)
  refine zaa rfl (st_alloc (cs:=[.val (Sv []),cI 0,cI 0,cI 0,.val (Sv []),.val (.slice none 0 0),.val (.slice none 0 0)]) 1 rfl rfl rfl rfl rfl) (s_st [_,_,_,_,_,_,_] ?_)
  refine aops_nil (aw_seq (aw_region (s_mv ?_)))
  iterate 2 refine s_ls [_,_,_,_,_,_,_] ?_
  obtain ⟨x6,hx6,l2⟩:=bind_s l2
  refine zaa rfl (ev_callee rfl (ev_call_v (zha hx6) rfl [] ai rfl rfl rfl (.inl rfl) rfl)) (s_nt (aops_nil ?_))
  refine aw_if l2 (fun c7 l2=>?_) (fun c7 l2=>?_)
  ·refine aw_seq (aw_region (s_sa (aops_nil ?_)))
   cases sj l2
   replace h:=onS_r h
   cases sj h
   exact aw_ret ⟨rfl,rv r1⟩
  refine aw_skip (aw_region ?_)
  obtain ⟨g8,l2⟩:=ifp_s l2
  refine zaa rfl (ev_add rfl rfl rfl (nat_add g8)) (s_mv (aops_nil ?_))
  exact ⟨⟨(n2,(s2_0+1)),l2⟩,Nat.lt_succ_self _,wk⟩
 refine aw_exit ?_
 show ∃_x:Unit,_=_∧Weak _ _
 exact ⟨(),sj l2,wk⟩
set_option maxHeartbeats 2000000 in
theorem zbM {k:Nat} {a0:List CodeMethod} {a1:List CodeMethod} {r:Bool} (h:zaD k a0 a1=some r):FnC Tryz.prog 38 [.one (CV.ls zad a0),.one (CV.ls zad a1),.one (.fn 32 [.cptr [.fn 31 []]])] [] (Det (vB r) []):=by
 unfold zaD at h
 refine fn_intro' 32 Tryz.func38 rfl rfl rfl (aw_seq (aw_region (s_sa ?_)))
 refine aops_nil (aw_seq (aw_seq (aw_region (s_mv ?_))))
 refine s_ln ?_
 refine s_mv ?_
 refine s_ln ?_
 refine s_cm (aops_nil ?_)
 refine aw_if h (fun c1 h=>?_) (fun c1 h=>?_)
 ·refine aw_seq (aw_region (s_sa (aops_nil ?_)))
  cases sj h
  exact aw_ret ⟨rfl,rv r1⟩
 refine aw_skip (aw_seq (aw_seq (aw_region (s_mv ?_))))
 refine s_ln ?_
 refine s_mv (aops_nil (aw_block ?_))
 obtain ⟨o2,ho2,h⟩:=bind_s h
 refine aw_loop_x (ι:={p:Nat×Nat // zaj k a0 a1 p.1 p.2=some o2}) (fun p=>(⟨32,[],[(1,.one (CV.ls zad a1)),(2,.one (.fn 32 [.cptr [.fn 31 []]])),(15,.one (CV.ls zad a0)),(16,vI ((a0.length:Nat):Int)),(17,vI ((p.1.2:Nat):Int))],[]⟩:ASt)) (fun p=>p.1.1) ⟨(k,0),ho2⟩ wk 0 (ε:=Unit) (fun x=>(⟨32,[],[],[]⟩:ASt)) (fun x=>Sum.inl x=o2) (fun _ _ w h=>aw_weak w h) ?_ ?_
 ·intro x2_0 hI2
  subst hI2
  replace h:=onS_l h
  refine aw_seq (aw_region (s_sa (aops_nil ?_)))
  cases sj h
  exact aw_ret ⟨rfl,rv r1⟩
 intro p2
 obtain ⟨⟨n2,s2_0⟩,l2⟩:=p2
 replace l2:zaj k a0 a1 n2 s2_0=some o2:=l2
 rcases n2 with _|n2
 ·exact absurd (show none=some o2 from l2) nofun
 rw [zaj] at l2
 refine aw_seq (aw_region (s_cm (aops_nil (aw_seq ?_))))
 refine aw_if l2 (fun c3 l2=>?_) (fun c3 l2=>?_)
 ·refine aw_skip (aw_seq (aw_block (aw_seq (aw_region (s_mv ?_)))))
  obtain ⟨g4,l2⟩:=ifp_s l2
  refine zaa rfl (zaf rfl rfl rfl g4 rfl rfl) (zaa rfl (zaI (ds:=[_,_,_,_,_]) rfl rfl rfl rfl) ?_)
  refine zaa rfl (st_alloc (cs:=[.val (Sv []),.val (.slice none 0 0),cI 0,.val (.slice none 0 0),.val (.slice none 0 0)]) 0 rfl rfl rfl rfl rfl) (s_sa ?_)
  refine s_st [_,_,_,_,_] (aops_nil (aw_seq (aw_region ?_)))
  iterate 2 refine s_mv ?_
  obtain ⟨g5,l2⟩:=ifp_s l2
  refine zaa rfl (zaf rfl rfl rfl g5 rfl rfl) (zaa rfl (zaI (ds:=[_,_,_,_,_]) rfl rfl rfl rfl) ?_)
  refine zaa rfl (st_alloc (cs:=[.val (Sv []),.val (.slice none 0 0),cI 0,.val (.slice none 0 0),.val (.slice none 0 0)]) 1 rfl rfl rfl rfl rfl) (s_st [_,_,_,_,_] ?_)
  refine aops_nil (aw_seq (aw_region (s_mv ?_)))
  iterate 2 refine s_ls [_,_,_,_,_] ?_
  obtain ⟨x6,hx6,l2⟩:=bind_s l2
  refine zaa rfl (zee (zhf hx6) rfl rfl [] ai rfl rfl rfl (.inl rfl) rfl) (s_nt (aops_nil ?_))
  refine aw_if l2 (fun c7 l2=>?_) (fun c7 l2=>?_)
  ·refine aw_seq (aw_region (s_sa (aops_nil ?_)))
   cases sj l2
   replace h:=onS_r h
   cases sj h
   exact aw_ret ⟨rfl,rv r1⟩
  refine aw_skip (aw_region ?_)
  obtain ⟨g8,l2⟩:=ifp_s l2
  refine zaa rfl (ev_add rfl rfl rfl (nat_add g8)) (s_mv (aops_nil ?_))
  exact ⟨⟨(n2,(s2_0+1)),l2⟩,Nat.lt_succ_self _,wk⟩
 refine aw_exit ?_
 show ∃_x:Unit,_=_∧Weak _ _
 exact ⟨(),sj l2,wk⟩
set_option maxHeartbeats 2000000 in
theorem zgY {k:Nat} {a0:CodeType} {a1:CodeType} {r:Bool} (h:zfw k a0 a1=some r):FnC Tryz.prog 36 [.agg (zab a0),.agg (zab a1),.one (.cptr [.fn 29 []]),.one (.cptr [.fn 32 [.cptr [.fn 31 []]]])] [] (Det (vB r) []):=by
 unfold zfw at h
 refine fn_intro' 28 Tryz.func36 rfl rfl rfl (aw_seq (aw_region (zaa rfl (st_box 0 rfl rfl rfl rfl) (zaa rfl (st_box 1 rfl rfl rfl rfl) (s_sa ?_)))))
 refine aops_nil (aw_seq (aw_region (s_fd ?_)))
 refine s_ld ?_
 refine s_fd ?_
 refine s_ld ?_
 refine zaa rfl (st_str_eq rfl rfl rfl) (s_mv ?_)
 obtain ⟨o1,j1,h⟩:=bind_s h
 refine aops_cutE 7 o1 (fun x1=>(⟨28,[],[(3,.one (.cptr [.fn 32 [.cptr [.fn 31 []]]])),(4,.one (.ptr 0 0)),(5,.one (.ptr 1 0)),(6,vB false),(19,vB x1)],[(0,some (.box (zab a0))),(1,some (.box (zab a1)))]⟩:ASt)) ?_ ?_
 ·refine s_mv ?_
  obtain ⟨o2,j2,h⟩:=bind_s h
  refine aops_cutE 7 o2 (fun x2=>(⟨28,[],[(6,vB false),(27,vB x2)],[]⟩:ASt)) ?_ ?_
  ·refine s_sa (aops_nil ?_)
   cases sj h
   exact aw_ret ⟨rfl,rv r1⟩
  rcases co j2 with ⟨q2,j2⟩|⟨q2,j2⟩
  ·refine y_fd q2 ?_
   refine y_ld q2 ?_
   refine y_fd q2 ?_
   refine y_ld q2 ?_
   refine aops_yes rfl rfl rfl rfl q2 (zas rfl rfl rfl) ?_
   obtain ⟨x3,hx3,j2⟩:=bind_s j2
   refine aops_yes rfl rfl rfl rfl q2 (ev_call_v (zbM hx3) rfl [] ai rfl rfl rfl (.inl rfl) rfl) (s_py q2 (aops_nil ?_))
   exact jx j2 wk
  iterate 6 refine np q2 ?_
  refine s_pn q2 (aops_nil ?_)
  exact jx j2 wk
 rcases co j1 with ⟨q1,j1⟩|⟨q1,j1⟩
 ·refine y_fd q1 ?_
  refine y_ld q1 ?_
  refine y_fd q1 ?_
  refine y_ld q1 ?_
  refine aops_yes rfl rfl rfl rfl q1 (zas rfl rfl rfl) ?_
  obtain ⟨x4,hx4,j1⟩:=bind_s j1
  refine aops_yes rfl rfl rfl rfl q1 (ev_call_v (zcd hx4) rfl [] ai rfl rfl rfl (.inl rfl) rfl) (s_py q1 (aops_nil ?_))
  exact jx j1 wk
 iterate 6 refine np q1 ?_
 refine s_pn q1 (aops_nil ?_)
 exact jx j1 wk
set_option maxHeartbeats 2000000 in
theorem zbS {k:Nat} {a0:List CodeType} {a1:List CodeType} {r:Bool} (h:zaH k a0 a1=some r):FnC Tryz.prog 35 [.one (CV.ls zab a0),.one (CV.ls zab a1),.one (.fn 36 [.cptr [.fn 29 []],.cptr [.fn 32 [.cptr [.fn 31 []]]]])] [] (Det (vB r) []):=by
 unfold zaH at h
 refine fn_intro' 32 Tryz.func35 rfl rfl rfl (aw_seq (aw_region (s_sa ?_)))
 refine aops_nil (aw_seq (aw_seq (aw_region (s_mv ?_))))
 refine s_ln ?_
 refine s_mv ?_
 refine s_ln ?_
 refine s_cm (aops_nil ?_)
 refine aw_if h (fun c1 h=>?_) (fun c1 h=>?_)
 ·refine aw_seq (aw_region (s_sa (aops_nil ?_)))
  cases sj h
  exact aw_ret ⟨rfl,rv r1⟩
 refine aw_skip (aw_seq (aw_seq (aw_region (s_mv ?_))))
 refine s_ln ?_
 refine s_mv (aops_nil (aw_block ?_))
 obtain ⟨o2,ho2,h⟩:=bind_s h
 refine aw_loop_x (ι:={p:Nat×Nat // zam k a0 a1 p.1 p.2=some o2}) (fun p=>(⟨32,[],[(1,.one (CV.ls zab a1)),(2,.one (.fn 36 [.cptr [.fn 29 []],.cptr [.fn 32 [.cptr [.fn 31 []]]]])),(15,.one (CV.ls zab a0)),(16,vI ((a0.length:Nat):Int)),(17,vI ((p.1.2:Nat):Int))],[]⟩:ASt)) (fun p=>p.1.1) ⟨(k,0),ho2⟩ wk 0 (ε:=Unit) (fun x=>(⟨32,[],[],[]⟩:ASt)) (fun x=>Sum.inl x=o2) (fun _ _ w h=>aw_weak w h) ?_ ?_
 ·intro x2_0 hI2
  subst hI2
  replace h:=onS_l h
  refine aw_seq (aw_region (s_sa (aops_nil ?_)))
  cases sj h
  exact aw_ret ⟨rfl,rv r1⟩
 intro p2
 obtain ⟨⟨n2,s2_0⟩,l2⟩:=p2
 replace l2:zam k a0 a1 n2 s2_0=some o2:=l2
 rcases n2 with _|n2
 ·exact absurd (show none=some o2 from l2) nofun
 rw [zam] at l2
 refine aw_seq (aw_region (s_cm (aops_nil (aw_seq ?_))))
 refine aw_if l2 (fun c3 l2=>?_) (fun c3 l2=>?_)
 ·refine aw_skip (aw_seq (aw_block (aw_seq (aw_region (s_mv ?_)))))
  obtain ⟨g4,l2⟩:=ifp_s l2
  refine zaa rfl (zaf rfl rfl rfl g4 rfl rfl) (zaa rfl (zaI (ds:=[_,_,_]) rfl rfl rfl rfl) ?_)
  refine zaa rfl (st_alloc (cs:=[.val (Sv []),.val (.slice none 0 0),.val (.slice none 0 0)]) 0 rfl rfl rfl rfl rfl) (s_sa ?_)
  refine s_st [_,_,_] (aops_nil (aw_seq (aw_region ?_)))
  iterate 2 refine s_mv ?_
  obtain ⟨g5,l2⟩:=ifp_s l2
  refine zaa rfl (zaf rfl rfl rfl g5 rfl rfl) (zaa rfl (zaI (ds:=[_,_,_]) rfl rfl rfl rfl) ?_)
  refine zaa rfl (st_alloc (cs:=[.val (Sv []),.val (.slice none 0 0),.val (.slice none 0 0)]) 1 rfl rfl rfl rfl rfl) (s_st [_,_,_] ?_)
  refine aops_nil (aw_seq (aw_region (s_mv ?_)))
  iterate 2 refine s_ls [_,_,_] ?_
  obtain ⟨x6,hx6,l2⟩:=bind_s l2
  refine zaa rfl (zee (zgY hx6) rfl rfl [] ai rfl rfl rfl (.inl rfl) rfl) (s_nt (aops_nil ?_))
  refine aw_if l2 (fun c7 l2=>?_) (fun c7 l2=>?_)
  ·refine aw_seq (aw_region (s_sa (aops_nil ?_)))
   cases sj l2
   replace h:=onS_r h
   cases sj h
   exact aw_ret ⟨rfl,rv r1⟩
  refine aw_skip (aw_region ?_)
  obtain ⟨g8,l2⟩:=ifp_s l2
  refine zaa rfl (ev_add rfl rfl rfl (nat_add g8)) (s_mv (aops_nil ?_))
  exact ⟨⟨(n2,(s2_0+1)),l2⟩,Nat.lt_succ_self _,wk⟩
 refine aw_exit ?_
 show ∃_x:Unit,_=_∧Weak _ _
 exact ⟨(),sj l2,wk⟩
set_option maxHeartbeats 2000000 in
theorem zgp {k:Nat} {a0:Code} {a1:Code} {r:Bool} (h:zfq k a0 a1=some r):FnC Tryz.prog 14 [.agg [CV.ls zab a0.Types],.agg [CV.ls zab a1.Types]] [] (Det (vB r) []):=by
 unfold zfq at h
 refine fn_intro' 15 Tryz.func14 rfl rfl rfl (aw_seq (aw_region (zaa rfl (st_box 0 rfl rfl rfl rfl) (zaa rfl (st_box 1 rfl rfl rfl rfl) (s_sa ?_)))))
 refine aops_nil (aw_seq (aw_region (zaa rfl (st_alloc (cs:=[.val .nilFunc]) 2 rfl rfl rfl rfl rfl) (s_st [_] ?_))))
 refine aops_nil (aw_frbox 2 rfl (aw_seq (aw_region (zaa rfl (st_alloc (cs:=[.val .nilFunc]) 3 rfl rfl rfl rfl rfl) (s_st [_] ?_)))))
 refine aops_nil (aw_frbox 3 rfl (aw_seq (aw_region (zaa rfl (zeK [.cptr [.fn 31 []]] rfl rfl rfl) ?_))))
 refine zaa rfl (st_alloc (cs:=[.val .nilFunc]) 4 rfl rfl rfl rfl rfl) (s_st [_] ?_)
 refine aops_nil (aw_frbox 4 rfl (aw_seq (aw_region (s_fd ?_))))
 refine s_ld ?_
 refine s_fd ?_
 refine s_ld ?_
 refine zaa rfl (zeK [.cptr [.fn 29 []],.cptr [.fn 32 [.cptr [.fn 31 []]]]] rfl rfl rfl) ?_
 obtain ⟨x1,hx1,h⟩:=bind_s h
 refine zaa rfl (ev_call_v (zbS hx1) rfl [] ai rfl rfl rfl (.inl rfl) rfl) (s_sa (aops_nil ?_))
 cases sj h
 exact aw_ret ⟨rfl,rv r1⟩
end Md
end Go.Proofs.YtclffekkjfhpdaaGreat

