import Derived.Test.YtclffekkjfhpdaaGreatQAbsSw
import Derived.Test.YtclffekkjfhpdaaGreatQMo
import Derived.Test.YtclffekkjfhpdaaGreatQTy
import Derived.Test.YtclffekkjfhpdaaGreatQAbsS
import Derived.Test.YtclffekkjfhpdaaGreatQCodeB
namespace Go.Proofs.YtclffekkjfhpdaaGreat
open Go.ChangeShapes Go.WideShapes Go.RowKit
open Abs
set_option linter.unusedVariables false
set_option linter.unusedSimpArgs false
set_option maxRecDepth 10000
namespace Md
set_option maxHeartbeats 2000000 in
theorem zeI {k:Nat} {a0:Value} {r:Bool} (h:zcZ k a0=some r):FnC Tryz.prog 15 [.agg (c_Value a0)] [] (Det (vB r) []):=by
 unfold zcZ at h
 refine fn_intro' 34 Tryz.func15 rfl rfl rfl (aw_seq (aw_region (zaa rfl (st_box 0 rfl rfl rfl rfl) (s_sa ?_))))
 refine aops_nil (aw_seq (aw_seq (aw_region (s_sa (aops_nil (aw_block ?_))))))
 obtain ⟨o1,ho1,h⟩:=bind_s h
 refine aw_loop_x (ι:={p:Nat×Nat // zbj k a0 p.1 p.2=some o1}) (fun p=>(⟨34,[],[(1,.one (.ptr 0 0)),(3,vI ((p.1.2:Nat):Int))],[(0,some (.box (c_Value a0)))]⟩:ASt)) (fun p=>p.1.1) ⟨(k,0),ho1⟩ wk 0 (ε:=Unit) (fun x=>(⟨34,[],[(1,.one (.ptr 0 0))],[(0,some (.box (c_Value a0)))]⟩:ASt)) (fun x=>Sum.inl x=o1) (fun _ _ w h=>aw_weak w h) ?_ ?_
 ·intro x1_0 hI1
  subst hI1
  replace h:=onS_l h
  refine aw_seq (aw_region (s_fd ?_))
  refine s_ld ?_
  refine zaa rfl (zdg rfl rfl) (s_cm ?_)
  refine s_mv ?_
  refine bo 5 ((decide (((a0.S.length:Nat):Int)≤100))&&(decide (((a0.I.length:Nat):Int)≤40))) ?_
  refine s_mv ?_
  refine bo 5 (((decide (((a0.S.length:Nat):Int)≤100))&&(decide (((a0.I.length:Nat):Int)≤40)))&&(decide (((a0.L.length:Nat):Int)≤40))) ?_
  refine s_sa (aops_nil ?_)
  cases sj h
  exact aw_ret ⟨rfl,rv r1⟩
 intro p1
 obtain ⟨⟨n1,s1_0⟩,l1⟩:=p1
 replace l1:zbj k a0 n1 s1_0=some o1:=l1
 rcases n1 with _|n1
 ·exact absurd (show none=some o1 from l1) nofun
 rw [zbj] at l1
 refine aw_seq (aw_seq (aw_region (s_mv ?_)))
 refine s_fd ?_
 refine s_ld ?_
 refine s_ln ?_
 refine s_cm (aops_nil ?_)
 refine aw_if l1 (fun c4 l1=>?_) (fun c4 l1=>?_)
 ·refine aw_skip (aw_seq (aw_block (aw_seq (aw_region (s_fd ?_)))))
  refine s_ld ?_
  refine s_mv ?_
  obtain ⟨g5,l1⟩:=ifp_s l1
  refine zaa rfl (zaf rfl rfl rfl g5 rfl rfl) (zaa rfl (zas rfl rfl rfl) (zaa rfl (zdg rfl rfl) (s_cm (aops_nil ?_))))
  refine aw_if l1 (fun c6 l1=>?_) (fun c6 l1=>?_)
  ·refine aw_seq (aw_region (s_sa (aops_nil ?_)))
   cases sj l1
   replace h:=onS_r h
   cases sj h
   exact aw_ret ⟨rfl,rv r1⟩
  refine aw_skip (aw_region (s_mv ?_))
  obtain ⟨g7,l1⟩:=ifp_s l1
  refine zaa rfl (ev_add rfl rfl rfl (nat_add g7)) (s_sa (aops_nil ?_))
  exact ⟨⟨(n1,(s1_0+1)),l1⟩,Nat.lt_succ_self _,wk⟩
 refine aw_exit ?_
 show ∃_x:Unit,_=_∧Weak _ _
 exact ⟨(),sj l1,wk⟩
set_option maxHeartbeats 2000000 in
theorem zgj {k:Nat} {a0:Code} {r:Bool} (h:zdp k a0=some r):FnC Tryz.prog 5 [.agg [CV.ls zab a0.Types]] [] (Det (vB r) []):=by
 unfold zdp at h
 refine fn_intro' 115 Tryz.func5 rfl rfl rfl (aw_seq (aw_region (zaa rfl (st_box 0 rfl rfl rfl rfl) (s_sa ?_))))
 refine aops_nil (aw_seq (aw_seq (aw_region (s_fd ?_))))
 refine s_ld ?_
 refine s_ln ?_
 refine s_cm (aops_nil ?_)
 refine aw_if h (fun c1 h=>?_) (fun c1 h=>?_)
 ·refine aw_seq (aw_region (s_sa (aops_nil ?_)))
  cases sj h
  exact aw_ret ⟨rfl,rv r1⟩
 refine aw_skip (aw_seq (aw_seq (aw_region (s_sa (aops_nil (aw_block ?_))))))
 obtain ⟨o2,ho2,h⟩:=bind_s h
 refine aw_loop_x (ι:={p:Nat×Nat // zbi k a0 p.1 p.2=some o2}) (fun p=>(⟨115,[],[(1,.one (.ptr 0 0)),(3,vI ((p.1.2:Nat):Int))],[(0,some (.box [CV.ls zab a0.Types]))]⟩:ASt)) (fun p=>p.1.1) ⟨(k,0),ho2⟩ wk 0 (ε:=Unit) (fun x=>(⟨115,[],[],[]⟩:ASt)) (fun x=>Sum.inl x=o2) (fun _ _ w h=>aw_weak w h) ?_ ?_
 ·intro x2_0 hI2
  subst hI2
  replace h:=onS_l h
  refine aw_seq (aw_region (s_sa (aops_nil ?_)))
  cases sj h
  exact aw_ret ⟨rfl,rv r1⟩
 intro p2
 obtain ⟨⟨n2,s2_0⟩,l2⟩:=p2
 replace l2:zbi k a0 n2 s2_0=some o2:=l2
 rcases n2 with _|n2
 ·exact absurd (show none=some o2 from l2) nofun
 rw [zbi] at l2
 refine aw_seq (aw_seq (aw_region (s_mv ?_)))
 refine s_fd ?_
 refine s_ld ?_
 refine s_ln ?_
 refine s_cm (aops_nil ?_)
 refine aw_if l2 (fun c3 l2=>?_) (fun c3 l2=>?_)
 ·refine aw_skip ?_
  obtain ⟨o4,j4,l2⟩:=bind_s l2
  refine aw_cut (ε:=Unit) (fun x=>(⟨115,[],[(1,.one (.ptr 0 0)),(3,vI ((s2_0:Nat):Int))],[(0,some (.box [CV.ls zab a0.Types]))]⟩:ASt)) (fun x=>Sum.inl x=o4) ?_ ?_
  ·intro x4_0 hI4
   subst hI4
   replace l2:=onS_l l2
   refine aw_region (s_mv ?_)
   obtain ⟨g5,l2⟩:=ifp_s l2
   refine zaa rfl (ev_add rfl rfl rfl (nat_add g5)) (s_sa (aops_nil ?_))
   exact ⟨⟨(n2,(s2_0+1)),l2⟩,Nat.lt_succ_self _,wk⟩
  refine aw_block (aw_seq (aw_region (s_fd ?_)))
  refine s_ld ?_
  refine s_mv ?_
  obtain ⟨g6,j4⟩:=ifp_s j4
  refine zaa rfl (zaf rfl rfl rfl g6 rfl rfl) (zaa rfl (zaI (ds:=[_,_,_]) rfl rfl rfl rfl) ?_)
  refine zaa rfl (st_alloc (cs:=[.val (Sv []),.val (.slice none 0 0),.val (.slice none 0 0)]) 1 rfl rfl rfl rfl rfl) (s_st [_,_,_] ?_)
  refine aops_nil (aw_seq (aw_seq (aw_region (s_fd ?_))))
  refine s_ld ?_
  refine zaa rfl (zdg rfl rfl) (s_cm ?_)
  refine s_mv ?_
  refine bo 5 ((decide (((((a0.Types.getD s2_0 default).Name).length:Nat):Int)>100))||(decide (((((a0.Types.getD s2_0 default).Fields).length:Nat):Int)>20))) ?_
  refine s_mv ?_
  refine bo 5 (((decide (((((a0.Types.getD s2_0 default).Name).length:Nat):Int)>100))||(decide (((((a0.Types.getD s2_0 default).Fields).length:Nat):Int)>20)))||(decide (((((a0.Types.getD s2_0 default).Methods).length:Nat):Int)>20))) ?_
  refine aops_nil ?_
  refine aw_if j4 (fun c9 j4=>?_) (fun c9 j4=>?_)
  ·refine aw_seq (aw_region (s_sa (aops_nil ?_)))
   cases sj j4
   replace l2:=onS_r l2
   cases sj l2
   replace h:=onS_r h
   cases sj h
   exact aw_ret ⟨rfl,rv r1⟩
  refine aw_skip (aw_seq (aw_seq (aw_region (s_sa (aops_nil (aw_block ?_))))))
  obtain ⟨o10,ho10,j4⟩:=bind_s j4
  refine aw_loop_x (ι:={p:Nat×Nat // zaU k a0 s2_0 p.1 p.2=some o10}) (fun p=>(⟨115,[],[(1,.one (.ptr 0 0)),(3,vI ((s2_0:Nat):Int)),(4,.one (.ptr 1 0)),(5,vI ((p.1.2:Nat):Int))],[(0,some (.box [CV.ls zab a0.Types])),(1,some (.box (zab (a0.Types.getD s2_0 default))))]⟩:ASt)) (fun p=>p.1.1) ⟨(k,0),ho10⟩ wk 2 (ε:=Unit) (fun x=>(⟨115,[],[(1,.one (.ptr 0 0)),(3,vI ((s2_0:Nat):Int)),(4,.one (.ptr 1 0))],[(0,some (.box [CV.ls zab a0.Types])),(1,some (.box (zab (a0.Types.getD s2_0 default))))]⟩:ASt)) (fun x=>Sum.inl x=o10) (fun _ _ w h=>aw_weak w h) ?_ ?_
  ·intro x10_0 hI10
   subst hI10
   replace j4:=onS_l j4
   refine aw_seq (aw_region (s_sa (aops_nil (aw_block ?_))))
   obtain ⟨o11,ho11,j4⟩:=bind_s j4
   refine aw_loop (ι:={p:Nat×Nat // zaT k a0 s2_0 p.1 p.2=some o11}) (fun p=>(⟨115,[],[(1,.one (.ptr 0 0)),(3,vI ((s2_0:Nat):Int)),(4,.one (.ptr 1 0)),(6,vI ((p.1.2:Nat):Int))],[(0,some (.box [CV.ls zab a0.Types])),(1,some (.box (zab (a0.Types.getD s2_0 default))))]⟩:ASt)) (fun p=>p.1.1) ⟨(k,0),ho11⟩ wk ?_
   intro p11
   obtain ⟨⟨n11,s11_0⟩,l11⟩:=p11
   replace l11:zaT k a0 s2_0 n11 s11_0=some o11:=l11
   rcases n11 with _|n11
   ·exact absurd (show none=some o11 from l11) nofun
   rw [zaT] at l11
   refine aw_seq (aw_seq (aw_region (s_mv ?_)))
   refine s_fd ?_
   refine s_ld ?_
   refine s_ln ?_
   refine s_cm (aops_nil ?_)
   refine aw_if l11 (fun c12 l11=>?_) (fun c12 l11=>?_)
   ·refine aw_skip ?_
    obtain ⟨o13,j13,l11⟩:=bind_s l11
    refine aw_cut (ε:=Unit) (fun x=>(⟨115,[],[(1,.one (.ptr 0 0)),(3,vI ((s2_0:Nat):Int)),(4,.one (.ptr 1 0)),(6,vI ((s11_0:Nat):Int))],[(0,some (.box [CV.ls zab a0.Types])),(1,some (.box (zab (a0.Types.getD s2_0 default))))]⟩:ASt)) (fun x=>Sum.inl x=o13) ?_ ?_
    ·intro x13_0 hI13
     subst hI13
     replace l11:=onS_l l11
     refine aw_region (s_mv ?_)
     obtain ⟨g14,l11⟩:=ifp_s l11
     refine zaa rfl (ev_add rfl rfl rfl (nat_add g14)) (s_sa (aops_nil ?_))
     exact ⟨⟨(n11,(s11_0+1)),l11⟩,Nat.lt_succ_self _,wk⟩
    refine aw_block (aw_seq (aw_region (s_fd ?_)))
    refine s_ld ?_
    refine s_mv ?_
    obtain ⟨g15,j13⟩:=ifp_s j13
    refine zaa rfl (zaf rfl rfl rfl g15 rfl rfl) (zaa rfl (zaI (ds:=[_,_,_,_,_]) rfl rfl rfl rfl) ?_)
    refine zaa rfl (st_alloc (cs:=[.val (Sv []),.val (.slice none 0 0),cI 0,.val (.slice none 0 0),.val (.slice none 0 0)]) 2 rfl rfl rfl rfl rfl) (s_st [_,_,_,_,_] ?_)
    refine aops_nil (aw_seq (aw_seq (aw_region (s_fd ?_))))
    refine s_ld ?_
    refine zaa rfl (zdg rfl rfl) (s_cm ?_)
    refine s_mv ?_
    refine bo 5 ((decide (((((((a0.Types.getD s2_0 default).Methods).getD s11_0 default).Name).length:Nat):Int)>100))||(decide (((((((a0.Types.getD s2_0 default).Methods).getD s11_0 default).Params).length:Nat):Int)>20))) ?_
    refine s_mv ?_
    refine bo 5 (((decide (((((((a0.Types.getD s2_0 default).Methods).getD s11_0 default).Name).length:Nat):Int)>100))||(decide (((((((a0.Types.getD s2_0 default).Methods).getD s11_0 default).Params).length:Nat):Int)>20)))||(decide (((((((a0.Types.getD s2_0 default).Methods).getD s11_0 default).Locals).length:Nat):Int)>40))) ?_
    refine s_mv ?_
    refine bo 5 ((((decide (((((((a0.Types.getD s2_0 default).Methods).getD s11_0 default).Name).length:Nat):Int)>100))||(decide (((((((a0.Types.getD s2_0 default).Methods).getD s11_0 default).Params).length:Nat):Int)>20)))||(decide (((((((a0.Types.getD s2_0 default).Methods).getD s11_0 default).Locals).length:Nat):Int)>40)))||(decide (((((((a0.Types.getD s2_0 default).Methods).getD s11_0 default).Code).length:Nat):Int)>120))) ?_
    refine aops_nil ?_
    refine aw_if j13 (fun c19 j13=>?_) (fun c19 j13=>?_)
    ·refine aw_seq (aw_region (s_sa (aops_nil ?_)))
     cases sj j13
     replace l11:=onS_r l11
     cases sj l11
     replace j4:=onS_r j4
     cases sj j4
     replace l2:=onS_r l2
     cases sj l2
     replace h:=onS_r h
     cases sj h
     exact aw_ret ⟨rfl,rv r1⟩
    refine aw_skip (aw_seq (aw_region (s_sa (aops_nil (aw_block ?_)))))
    obtain ⟨o20,ho20,j13⟩:=bind_s j13
    refine aw_loop (ι:={p:Nat×Nat // zaV k a0 s2_0 s11_0 p.1 p.2=some o20}) (fun p=>(⟨115,[],[(1,.one (.ptr 0 0)),(3,vI ((s2_0:Nat):Int)),(4,.one (.ptr 1 0)),(6,vI ((s11_0:Nat):Int)),(7,.one (.ptr 2 0)),(8,vI ((p.1.2:Nat):Int))],[(0,some (.box [CV.ls zab a0.Types])),(1,some (.box (zab (a0.Types.getD s2_0 default)))),(2,some (.box (zad (((a0.Types.getD s2_0 default).Methods).getD s11_0 default))))]⟩:ASt)) (fun p=>p.1.1) ⟨(k,0),ho20⟩ wk ?_
    intro p20
    obtain ⟨⟨n20,s20_0⟩,l20⟩:=p20
    replace l20:zaV k a0 s2_0 s11_0 n20 s20_0=some o20:=l20
    rcases n20 with _|n20
    ·exact absurd (show none=some o20 from l20) nofun
    rw [zaV] at l20
    refine aw_seq (aw_seq (aw_region (s_mv ?_)))
    refine s_fd ?_
    refine s_ld ?_
    refine s_ln ?_
    refine s_cm (aops_nil ?_)
    refine aw_if l20 (fun c21 l20=>?_) (fun c21 l20=>?_)
    ·refine aw_skip (aw_seq (aw_block (aw_seq (aw_region (s_fd ?_)))))
     refine s_ld ?_
     refine s_mv ?_
     obtain ⟨g22,l20⟩:=ifp_s l20
     refine zaa rfl (zaf rfl rfl rfl g22 rfl rfl) (zaa rfl (zaM rfl rfl rfl) ?_)
     refine zaa rfl (zaI (ds:=[_,_,_,_,_]) rfl rfl rfl rfl) ?_
     obtain ⟨x23,hx23,l20⟩:=bind_s l20
     refine zaa rfl (ev_call_v (zeI hx23) rfl [] ai rfl rfl rfl (.inl rfl) rfl) (s_nt (aops_nil ?_))
     refine aw_if l20 (fun c24 l20=>?_) (fun c24 l20=>?_)
     ·refine aw_seq (aw_region (s_sa (aops_nil ?_)))
      cases sj l20
      replace j13:=onS_r j13
      cases sj j13
      replace l11:=onS_r l11
      cases sj l11
      replace j4:=onS_r j4
      cases sj j4
      replace l2:=onS_r l2
      cases sj l2
      replace h:=onS_r h
      cases sj h
      exact aw_ret ⟨rfl,rv r1⟩
     refine aw_skip (aw_region (s_mv ?_))
     obtain ⟨g25,l20⟩:=ifp_s l20
     refine zaa rfl (ev_add rfl rfl rfl (nat_add g25)) (s_sa (aops_nil ?_))
     exact ⟨⟨(n20,(s20_0+1)),l20⟩,Nat.lt_succ_self _,wk⟩
    refine aw_exit ?_
    have e20:=sj l20
    subst e20
    replace j13:=onS_l j13
    show ∃_x:Unit,_=_∧Weak _ _
    exact ⟨(),sj j13,wk⟩
   refine aw_exit ?_
   have e11:=sj l11
   subst e11
   replace j4:=onS_l j4
   show ∃_x:Unit,_=_∧Weak _ _
   exact ⟨(),sj j4,wk⟩
  intro p10
  obtain ⟨⟨n10,s10_0⟩,l10⟩:=p10
  replace l10:zaU k a0 s2_0 n10 s10_0=some o10:=l10
  rcases n10 with _|n10
  ·exact absurd (show none=some o10 from l10) nofun
  rw [zaU] at l10
  refine aw_seq (aw_seq (aw_region (s_mv ?_)))
  refine s_fd ?_
  refine s_ld ?_
  refine s_ln ?_
  refine s_cm (aops_nil ?_)
  refine aw_if l10 (fun c26 l10=>?_) (fun c26 l10=>?_)
  ·refine aw_skip (aw_seq (aw_block (aw_seq (aw_region (s_fd ?_)))))
   refine s_ld ?_
   refine s_mv ?_
   obtain ⟨g27,l10⟩:=ifp_s l10
   refine zaa rfl (zaf rfl rfl rfl g27 rfl rfl) (zaa rfl (zaM rfl rfl rfl) (zaa rfl (zas rfl rfl rfl) ?_))
   refine zaa rfl (zdg rfl rfl) (s_cm ?_)
   refine s_mv ?_
   obtain ⟨o28,j28,l10⟩:=bind_s l10
   refine aops_cutE 9 o28 (fun x28=>(⟨115,[],[(1,.one (.ptr 0 0)),(3,vI ((s2_0:Nat):Int)),(4,.one (.ptr 1 0)),(5,vI ((s10_0:Nat):Int)),(65,vB x28)],[(0,some (.box [CV.ls zab a0.Types])),(1,some (.box (zab (a0.Types.getD s2_0 default))))]⟩:ASt)) ?_ ?_
   ·refine aops_nil ?_
    refine aw_if l10 (fun c29 l10=>?_) (fun c29 l10=>?_)
    ·refine aw_seq (aw_region (s_sa (aops_nil ?_)))
     cases sj l10
     replace j4:=onS_r j4
     cases sj j4
     replace l2:=onS_r l2
     cases sj l2
     replace h:=onS_r h
     cases sj h
     exact aw_ret ⟨rfl,rv r1⟩
    refine aw_skip (aw_region (s_mv ?_))
    obtain ⟨g30,l10⟩:=ifp_s l10
    refine zaa rfl (ev_add rfl rfl rfl (nat_add g30)) (s_sa (aops_nil ?_))
    exact ⟨⟨(n10,(s10_0+1)),l10⟩,Nat.lt_succ_self _,wk⟩
   rcases co j28 with ⟨q28,j28⟩|⟨q28,j28⟩
   ·iterate 8 refine np q28 ?_
    refine s_py q28 (aops_nil ?_)
    exact jx j28 wk
   refine y_fd q28 ?_
   refine y_ld q28 ?_
   refine y_mv q28 ?_
   obtain ⟨g31,j28⟩:=ifp_s j28
   refine aops_yes rfl rfl rfl rfl q28 (zaf rfl rfl rfl g31 rfl rfl) (aops_yes rfl rfl rfl rfl q28 (zaM rfl rfl rfl) ?_)
   refine aops_yes rfl rfl rfl rfl q28 (zaI (ds:=[_,_,_,_,_]) rfl rfl rfl rfl) ?_
   obtain ⟨x32,hx32,j28⟩:=bind_s j28
   refine aops_yes rfl rfl rfl rfl q28 (ev_call_v (zeI hx32) rfl [] ai rfl rfl rfl (.inl rfl) rfl) (y_nt q28 ?_)
   refine s_pn q28 (aops_nil ?_)
   exact jx j28 wk
  refine aw_exit ?_
  show ∃_x:Unit,_=_∧Weak _ _
  exact ⟨(),sj l10,wk⟩
 refine aw_exit ?_
 show ∃_x:Unit,_=_∧Weak _ _
 exact ⟨(),sj l2,wk⟩
set_option maxHeartbeats 2000000 in
theorem zbL {k:Nat} {a0:List Int} {a1:List Int} {r:Bool} (h:zbP k a0 a1=some r):FnC Tryz.prog 8 [.one (CV.ls c_Int a0),.one (CV.ls c_Int a1)] [] (Det (vB r) []):=by
 unfold zbP at h
 refine fn_intro' 26 Tryz.func8 rfl rfl rfl (aw_seq (aw_region (s_sa ?_)))
 refine aops_nil (aw_seq (aw_seq (aw_region (s_mv ?_))))
 refine s_ln ?_
 refine s_mv ?_
 refine s_ln ?_
 refine s_cm (aops_nil ?_)
 refine aw_if h (fun c1 h=>?_) (fun c1 h=>?_)
 ·refine aw_seq (aw_region (s_sa (aops_nil ?_)))
  cases sj h
  exact aw_ret ⟨rfl,rv r1⟩
 refine aw_skip (aw_seq (aw_seq (aw_region (s_sa (aops_nil (aw_block ?_))))))
 obtain ⟨o2,ho2,h⟩:=bind_s h
 refine aw_loop_x (ι:={p:Nat×Nat // zbK k a0 a1 p.1 p.2=some o2}) (fun p=>(⟨26,[],[(0,.one (CV.ls c_Int a0)),(1,.one (CV.ls c_Int a1)),(5,vI ((p.1.2:Nat):Int))],[]⟩:ASt)) (fun p=>p.1.1) ⟨(k,0),ho2⟩ wk 0 (ε:=Unit) (fun x=>(⟨26,[],[],[]⟩:ASt)) (fun x=>Sum.inl x=o2) (fun _ _ w h=>aw_weak w h) ?_ ?_
 ·intro x2_0 hI2
  subst hI2
  replace h:=onS_l h
  refine aw_seq (aw_region (s_sa (aops_nil ?_)))
  cases sj h
  exact aw_ret ⟨rfl,rv r1⟩
 intro p2
 obtain ⟨⟨n2,s2_0⟩,l2⟩:=p2
 replace l2:zbK k a0 a1 n2 s2_0=some o2:=l2
 rcases n2 with _|n2
 ·exact absurd (show none=some o2 from l2) nofun
 rw [zbK] at l2
 refine aw_seq (aw_seq (aw_region ?_))
 iterate 2 refine s_mv ?_
 refine s_ln ?_
 refine s_cm (aops_nil ?_)
 refine aw_if l2 (fun c3 l2=>?_) (fun c3 l2=>?_)
 ·refine aw_skip (aw_seq (aw_block ?_))
  obtain ⟨g4,l2⟩:=ifp_s l2
  obtain ⟨g5,l2⟩:=ifp_s l2
  refine aw_seq ?_
  apply aw_draw 8 [ad _,ad _,ad _,ad _,ad _,ad _,ad _,ad _] (by decide) rfl ?hk6x ?hf6x ?ho6x ?hr6x
  case ho6x =>
   refine o_mv 0 ?_
   refine o_mv 0 ?_
   refine obn 3 (fun S hle hfr=>.inl ⟨w0,zaf (hle.e rfl) (hle.e rfl) rfl g4 rfl (hle.d rfl)⟩) ?_
   refine o_li 7 ?_
   refine o_mv 0 ?_
   refine o_mv 0 ?_
   refine obn 48 (fun S hle hfr=>.inl ⟨w0,zaf (hle.e rfl) (hle.e rfl) rfl g5 rfl (hle.d rfl)⟩) ?_
   refine o_li 112 ?_
   exact trivial
  case hk6x=>rfl
  case hf6x=>rfl
  refine s_cm (aops_nil ?_)
  refine aw_if l2 (fun c6 l2=>?_) (fun c6 l2=>?_)
  ·refine aw_seq (aw_region (s_sa (aops_nil ?_)))
   cases sj l2
   replace h:=onS_r h
   cases sj h
   exact aw_ret ⟨rfl,rv r1⟩
  refine aw_skip (aw_region (s_mv ?_))
  obtain ⟨g7,l2⟩:=ifp_s l2
  refine zaa rfl (ev_add rfl rfl rfl (nat_add g7)) (s_sa (aops_nil ?_))
  exact ⟨⟨(n2,(s2_0+1)),l2⟩,Nat.lt_succ_self _,wk⟩
 refine aw_exit ?_
 show ∃_x:Unit,_=_∧Weak _ _
 exact ⟨(),sj l2,wk⟩
set_option maxHeartbeats 2000000 in
theorem zfQ {k:Nat} {a0:CodeMethod} {r:(List Int)} (h:zdG k a0=some r):FnC Tryz.prog 105 [.agg (zad a0)] [] (Det (.one (CV.ls c_Int r)) []):=by
 unfold zdG at h
 refine fn_intro' 9 Tryz.func105 rfl rfl rfl (aw_seq (aw_region (zaa rfl (st_box 0 rfl rfl rfl rfl) (s_sa ?_))))
 refine aops_nil (aw_seq (aw_seq (aw_region (s_fd ?_))))
 refine s_ld ?_
 refine s_cm (aops_nil ?_)
 refine aw_if h (fun c1 h=>?_) (fun c1 h=>?_)
 ·refine aw_seq (aw_region (s_sa (aops_nil ?_)))
  cases sj h
  exact aw_ret ⟨rfl,rv r1⟩
 refine aw_skip (aw_seq (aw_region (s_fd ?_)))
 refine s_ld ?_
 refine zaa rfl (zac (el:=lsEl c_Int [a0.Result]) 1 rfl rfl rfl rfl rfl rfl rfl rfl (lit_el c_Int 1 [a0.Result] (fun _=>rfl)) rfl) (s_sa (aops_nil ?_))
 cases sj h
 refine aw_freeze 1 rfl ?_
 exact aw_ret ⟨rfl,rv r1⟩
set_option maxHeartbeats 2000000 in
theorem zgu {k:Nat} {a0:CodeMethod} {a1:Int} {r:(List Int)×Bool} (h:zdC k a0 a1=some r):FnC Tryz.prog 46 [.agg (zad a0),vI a1] [] (Det (.tup [.one (CV.ls c_Int r.1),vB r.2]) []):=by
 unfold zdC at h
 refine fn_intro' 39 Tryz.func46 rfl rfl rfl (aw_seq (aw_region (zaa rfl (st_box 0 rfl rfl rfl rfl) ?_)))
 iterate 2 refine s_sa ?_
 refine aops_nil (aw_seq (aw_region (s_fd ?_)))
 refine s_ld ?_
 refine s_mv ?_
 obtain ⟨g1,h⟩:=ifp_s h
 refine zaa rfl (zaf rfl rfl (idx_eq g1) (idx_lt g1) rfl rfl) ?_
 refine zaa rfl (zaI (ds:=[_,_,_,_,_,_,_,_]) rfl rfl rfl rfl) ?_
 refine zaa rfl (st_alloc (cs:=[cI 0,cI 0,cI 0,cI 0,cI 0,.val (Sv []),.val (.slice none 0 0),.val (.slice none 0 0)]) 1 rfl rfl rfl rfl rfl) (s_st [_,_,_,_,_,_,_,_] ?_)
 refine aops_nil (aw_seq (aw_seq (aw_region (s_fd ?_))))
 refine s_ld ?_
 refine aops_nil (aw_block (aw_seq (aw_seq (aw_region (s_cm ?_)))))
 refine s_sa (aops_nil ?_)
 refine aw_if h (fun c2 h=>?_) (fun c2 h=>?_)
 ·refine aw_skip (aw_yes rfl (c2) (aw_seq (aw_region ?_)))
  iterate 2 refine s_sa ?_
  refine aops_nil ?_
  cases sj h
  exact aw_ret ⟨rfl,rv (rn (.cons o1 (.cons o1 .nil)))⟩
 refine aw_region (s_cm ?_)
 refine s_sa (aops_nil ?_)
 refine aw_if h (fun c3 h=>?_) (fun c3 h=>?_)
 ·refine aw_seq (aw_region ?_)
  iterate 2 refine s_sa ?_
  refine aops_nil ?_
  cases sj h
  exact aw_ret ⟨rfl,rv (rn (.cons o1 (.cons o1 .nil)))⟩
 refine aw_seq (aw_region (s_cm ?_))
 refine s_sa (aops_nil ?_)
 refine aw_if h (fun c4 h=>?_) (fun c4 h=>?_)
 ·refine aw_seq (aw_region (s_fd ?_))
  refine s_ld ?_
  refine zaa rfl (zac (el:=lsEl c_Int [((a0.Code.getD ((a1).toNat) default).A)]) 2 rfl rfl rfl rfl rfl rfl rfl rfl (lit_el c_Int 1 [((a0.Code.getD ((a1).toNat) default).A)] (fun _=>rfl)) rfl) ?_
  iterate 2 refine s_sa ?_
  refine aops_nil ?_
  cases sj h
  refine aw_freeze 2 rfl ?_
  exact aw_ret ⟨rfl,rv (rn (.cons o1 (.cons o1 .nil)))⟩
 refine aw_skip (aw_seq (aw_seq (aw_region (s_mv ?_))))
 refine zaa rfl (ev_add rfl rfl rfl (wrap_W _)) (s_fd ?_)
 refine s_ld ?_
 refine s_ln ?_
 refine s_cm (aops_nil ?_)
 refine aw_if h (fun c5 h=>?_) (fun c5 h=>?_)
 ·refine aw_seq (aw_region ?_)
  iterate 2 refine s_sa ?_
  refine aops_nil ?_
  cases sj h
  exact aw_ret ⟨rfl,rv (rn (.cons o1 (.cons o1 .nil)))⟩
 refine aw_skip (aw_seq (aw_seq (aw_region (s_fd ?_))))
 refine s_ld ?_
 refine s_cm (aops_nil ?_)
 refine aw_if h (fun c6 h=>?_) (fun c6 h=>?_)
 ·refine aw_seq (aw_region (s_mv ?_))
  refine zaa rfl (ev_add rfl rfl rfl (wrap_W _)) (s_fd ?_)
  refine s_ld ?_
  refine zaa rfl (zac (el:=lsEl c_Int [(W (a1+1)),((a0.Code.getD ((a1).toNat) default).A)]) 2 rfl rfl rfl rfl rfl rfl rfl rfl (lit_el c_Int 1 [(W (a1+1)),((a0.Code.getD ((a1).toNat) default).A)] (fun _=>rfl)) rfl) ?_
  iterate 2 refine s_sa ?_
  refine aops_nil ?_
  cases sj h
  refine aw_freeze 2 rfl ?_
  exact aw_ret ⟨rfl,rv (rn (.cons o1 (.cons o1 .nil)))⟩
 refine aw_skip (aw_seq (aw_region (s_mv ?_)))
 refine zaa rfl (ev_add rfl rfl rfl (wrap_W _)) ?_
 refine zaa rfl (zac (el:=lsEl c_Int [(W (a1+1))]) 2 rfl rfl rfl rfl rfl rfl rfl rfl (lit_el c_Int 1 [(W (a1+1))] (fun _=>rfl)) rfl) ?_
 iterate 2 refine s_sa ?_
 refine aops_nil ?_
 cases sj h
 refine aw_freeze 2 rfl ?_
 exact aw_ret ⟨rfl,rv (rn (.cons o1 (.cons o1 .nil)))⟩
end Md
end Go.Proofs.YtclffekkjfhpdaaGreat

