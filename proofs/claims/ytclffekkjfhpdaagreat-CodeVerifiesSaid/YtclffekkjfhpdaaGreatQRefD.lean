import Derived.Test.YtclffekkjfhpdaaGreatQAbsSw
import Derived.Test.YtclffekkjfhpdaaGreatQMo
import Derived.Test.YtclffekkjfhpdaaGreatQTy
import Derived.Test.YtclffekkjfhpdaaGreatQAbsS
import Derived.Test.YtclffekkjfhpdaaGreatQAbsG
import Derived.Test.YtclffekkjfhpdaaGreatQRefM
namespace Go.Proofs.YtclffekkjfhpdaaGreat
open Go.ChangeShapes Go.WideShapes Go.RowKit
open Abs
set_option linter.unusedVariables false
set_option linter.unusedSimpArgs false
set_option maxRecDepth 10000
namespace Md
set_option maxHeartbeats 2000000 in
theorem zeF {k:Nat} {a0:Code} {a1:CodeType} {a2:CodeMethod} {r:(List Actorgridref20Point)×Bool} (h:zca k a0 a1 a2=some r):FnC Tryz.prog 19 [.agg [CV.ls zab a0.Types],.agg (zab a1),.agg (zad a2)] [] (Det (.tup [.one (CV.ls zah r.1),vB r.2]) []):=by
 unfold zca at h
 refine fn_intro' 193 Tryz.func19 rfl rfl rfl (aw_seq (aw_region (zaa rfl (st_box 0 rfl rfl rfl rfl) (zaa rfl (st_box 1 rfl rfl rfl rfl) ?_))))
 refine zaa rfl (st_box 2 rfl rfl rfl rfl) ?_
 iterate 2 refine s_sa ?_
 refine aops_nil (aw_seq (aw_region (s_fd ?_)))
 refine s_ld ?_
 refine s_ln ?_
 obtain ⟨g1,h⟩:=ifp_s h
 refine zaa rfl (st_makes (zs:=[.bool false,.slice none 0 0,.slice none 0 0]) (f:=zah) 3 a2.Code.length a2.Code.length (⟨false,([]:List Int),([]:List Bool)⟩:Actorgridref20Point) rfl rfl rfl (Nat.le_refl _) g1 rfl (fun A w=>by repeat' (first|exact .nil|refine .cons ?_ ?_|exact RepC.val _ rfl|exact RepC.nil _|fail)) (fun _=>rfl) (by decide) (Nat.le_trans (Nat.mul_le_mul_right _ g1) (by decide)) rfl) (s_sa ?_)
 refine aops_nil (aw_seq (aw_region (s_fd ?_)))
 refine s_ld ?_
 refine s_ln ?_
 obtain ⟨g2,h⟩:=ifp_s h
 refine zaa rfl (st_make (f:=c_Bool) 4 a2.Locals.length a2.Locals.length false rfl rfl rfl (Nat.le_refl _) g2 rfl rfl rfl (fun _=>rfl) (by decide) rfl) (s_sa ?_)
 refine aops_nil (aw_seq (aw_seq (aw_region (s_sa (aops_nil (aw_block ?_))))))
 obtain ⟨o3,ho3,h⟩:=bind_s h
 refine aw_loop_x (ι:={p:Nat×Nat×(List Bool) // zbN k a2 p.1 p.2.1 p.2.2=some o3}) (fun p=>(⟨193,[],[(3,.one (.ptr 0 0)),(4,.one (.ptr 1 0)),(5,.one (.ptr 2 0)),(8,.one (.own 3)),(9,.one (.own 4)),(10,vI ((p.1.2.1:Nat):Int))],[(0,some (.box [CV.ls zab a0.Types])),(1,some (.box (zab a1))),(2,some (.box (zad a2))),(3,some (.row 67 3 (List.replicate a2.Code.length (⟨false,([]:List Int),([]:List Bool)⟩:Actorgridref20Point)).length (lsEl zah (List.replicate a2.Code.length (⟨false,([]:List Int),([]:List Bool)⟩:Actorgridref20Point))))),(4,some (.row 4 1 p.1.2.2.length (lsEl c_Bool p.1.2.2)))]⟩:ASt)) (fun p=>p.1.1) ⟨(k,0,(List.replicate a2.Locals.length false)),ho3⟩ wk 0 (ε:=(List Bool)) (fun x=>(⟨193,[],[(3,.one (.ptr 0 0)),(4,.one (.ptr 1 0)),(5,.one (.ptr 2 0)),(8,.one (.own 3)),(9,.one (.own 4))],[(0,some (.box [CV.ls zab a0.Types])),(1,some (.box (zab a1))),(2,some (.box (zad a2))),(3,some (.row 67 3 (List.replicate a2.Code.length (⟨false,([]:List Int),([]:List Bool)⟩:Actorgridref20Point)).length (lsEl zah (List.replicate a2.Code.length (⟨false,([]:List Int),([]:List Bool)⟩:Actorgridref20Point))))),(4,some (.row 4 1 x.length (lsEl c_Bool x)))]⟩:ASt)) (fun x=>x=o3) (fun _ _ w h=>aw_weak w h) ?_ ?_
 ·intro x3_0 hI3
  subst hI3
  change AW _ _ (⟨193,[],[(3,.one (.ptr 0 0)),(4,.one (.ptr 1 0)),(5,.one (.ptr 2 0)),(8,.one (.own 3)),(9,.one (.own 4))],[(0,some (.box [CV.ls zab a0.Types])),(1,some (.box (zab a1))),(2,some (.box (zad a2))),(3,some (.row 67 3 (List.replicate a2.Code.length (⟨false,([]:List Int),([]:List Bool)⟩:Actorgridref20Point)).length (lsEl zah (List.replicate a2.Code.length (⟨false,([]:List Int),([]:List Bool)⟩:Actorgridref20Point))))),(4,some (.row 4 1 x3_0.length (lsEl c_Bool x3_0)))]⟩:ASt) _
  refine aw_seq (aw_region ?_)
  iterate 2 refine s_mv ?_
  refine zaa rfl (ev_build' (out:=[_,_,_]) rfl rfl rfl rfl rfl) ?_
  obtain ⟨g4,h⟩:=ifp_s h
  refine zaa rfl (zbI rfl rfl rfl rfl g4 rfl) (zae 4 rfl ?_)
  refine zaa rfl (zex (l:=(List.replicate a2.Code.length (⟨false,([]:List Int),([]:List Bool)⟩:Actorgridref20Point))) (f:=zah) (⟨true,([]:List Int),x3_0⟩:Actorgridref20Point) (fun _=>rfl) rfl rfl g4 rfl rfl (by repeat' (first|exact .nil|refine .cons ?_ ?_|exact .refl _|exact .nil _|fail)) rfl rfl rfl rfl rfl) ?_
  refine aops_nil (aw_seq (aw_seq (aw_region (s_sa (aops_nil (aw_block ?_))))))
  obtain ⟨o5,ho5,h⟩:=bind_s h
  refine aw_loop_x (ι:={p:Nat×Bool×(List Actorgridref20Point) // zaZ k a0 a1 a2 p.1 p.2.1 p.2.2=some o5}) (fun p=>(⟨193,[],[(3,.one (.ptr 0 0)),(4,.one (.ptr 1 0)),(5,.one (.ptr 2 0)),(8,.one (.own 3)),(11,vB p.1.2.1)],[(0,some (.box [CV.ls zab a0.Types])),(1,some (.box (zab a1))),(2,some (.box (zad a2))),(3,some (.row 67 3 p.1.2.2.length (lsEl zah p.1.2.2)))]⟩:ASt)) (fun p=>p.1.1) ⟨(k,true,((List.replicate a2.Code.length (⟨false,([]:List Int),([]:List Bool)⟩:Actorgridref20Point)).set 0 (⟨true,([]:List Int),x3_0⟩:Actorgridref20Point))),ho5⟩ wk 2 (ε:=(List Actorgridref20Point)) (fun x=>(⟨193,[],[(5,.one (.ptr 2 0)),(8,.one (.own 3))],[(2,some (.box (zad a2))),(3,some (.row 67 3 x.length (lsEl zah x)))]⟩:ASt)) (fun x=>Sum.inl x=o5) (fun _ _ w h=>aw_weak w h) ?_ ?_
  ·intro x5_0 hI5
   subst hI5
   replace h:=onS_l h
   change AW _ _ (⟨193,[],[(5,.one (.ptr 2 0)),(8,.one (.own 3))],[(2,some (.box (zad a2))),(3,some (.row 67 3 x5_0.length (lsEl zah x5_0)))]⟩:ASt) _
   refine aw_seq (aw_seq (aw_region (s_sa (aops_nil (aw_block ?_)))))
   obtain ⟨o6,ho6,h⟩:=bind_s h
   refine aw_loop_x (ι:={p:Nat×Nat // zaL k a2 x5_0 p.1 p.2=some o6}) (fun p=>(⟨193,[],[(5,.one (.ptr 2 0)),(8,.one (.own 3)),(22,vI ((p.1.2:Nat):Int))],[(2,some (.box (zad a2))),(3,some (.row 67 3 x5_0.length (lsEl zah x5_0)))]⟩:ASt)) (fun p=>p.1.1) ⟨(k,0),ho6⟩ wk 8 (ε:=Unit) (fun x=>(⟨193,[],[(8,.one (.own 3))],[(3,some (.row 67 3 x5_0.length (lsEl zah x5_0)))]⟩:ASt)) (fun x=>Sum.inl x=o6) (fun _ _ w h=>aw_weak w h) ?_ ?_
   ·intro x6_0 hI6
    subst hI6
    replace h:=onS_l h
    change AW _ _ (⟨193,[],[(8,.one (.own 3))],[(3,some (.row 67 3 x5_0.length (lsEl zah x5_0)))]⟩:ASt) _
    refine aw_seq (aw_region (s_mv ?_))
    iterate 2 refine s_sa ?_
    refine aops_nil ?_
    cases sj h
    refine aw_freeze 3 rfl ?_
    exact aw_ret ⟨rfl,rv (rn (.cons o1 (.cons o1 .nil)))⟩
   intro p6
   obtain ⟨⟨n6,s6_0⟩,l6⟩:=p6
   change AW _ _ (⟨193,[],[(5,.one (.ptr 2 0)),(8,.one (.own 3)),(22,vI ((s6_0:Nat):Int))],[(2,some (.box (zad a2))),(3,some (.row 67 3 x5_0.length (lsEl zah x5_0)))]⟩:ASt) _
   replace l6:zaL k a2 x5_0 n6 s6_0=some o6:=l6
   rcases n6 with _|n6
   ·exact absurd (show none=some o6 from l6) nofun
   rw [zaL] at l6
   refine aw_seq (aw_seq (aw_region ?_))
   iterate 2 refine s_mv ?_
   refine zaa rfl (zfk rfl rfl rfl) (s_cm (aops_nil ?_))
   refine aw_if l6 (fun c7 l6=>?_) (fun c7 l6=>?_)
   ·refine aw_skip ?_
    obtain ⟨o8,j8,l6⟩:=bind_s l6
    refine aw_cut (ε:=Unit) (fun x=>(⟨193,[],[(5,.one (.ptr 2 0)),(8,.one (.own 3)),(22,vI ((s6_0:Nat):Int))],[(2,some (.box (zad a2))),(3,some (.row 67 3 x5_0.length (lsEl zah x5_0)))]⟩:ASt)) (fun x=>Sum.inl x=o8) ?_ ?_
    ·intro x8_0 hI8
     subst hI8
     replace l6:=onS_l l6
     change AW _ _ (⟨193,[],[(5,.one (.ptr 2 0)),(8,.one (.own 3)),(22,vI ((s6_0:Nat):Int))],[(2,some (.box (zad a2))),(3,some (.row 67 3 x5_0.length (lsEl zah x5_0)))]⟩:ASt) _
     refine aw_region (s_mv ?_)
     obtain ⟨g9,l6⟩:=ifp_s l6
     refine zaa rfl (ev_add rfl rfl rfl (nat_add g9)) (s_sa (aops_nil ?_))
     exact ⟨⟨(n6,(s6_0+1)),l6⟩,Nat.lt_succ_self _,wk⟩
    refine aw_block ?_
    obtain ⟨g10,j8⟩:=ifp_s j8
    rcases co j8 with ⟨q11,j8⟩|⟨q11,j8⟩
    ·refine aw_seq ?_
     apply aw_draw 26 [ad _,ad _,ad _,ad _,ad _,ad _,ad _,ad _,ad _,ad _,ad _,ad _,ad _,ad _,ad _,ad _,ad _,ad _,ad _,ad _,ad _,ad _,ad _,ad _,ad _,ad _] (by decide) rfl ?hk268x ?hf268x ?ho268x ?hr268x
     case ho268x =>
      refine o_mv 0 ?_
      refine o_mv 0 ?_
      refine obn 3 (fun S hle hfr=>.inl ⟨w0,zbI (hle.e rfl) (hle.heap _ _ rfl) (hle.e rfl) rfl g10 (hle.d rfl)⟩) ?_
      refine o_fr 7 ?_
      refine obn 15 (fun S hle hfr=>.inl ⟨w0,zcD (hle.e rfl) (hle.heap _ _ rfl) g10 rfl (hle.d rfl)⟩) ?_
      refine o_nt 31 ?_
      refine o_mv 63 ?_
      refine on 127 q11 ?_
      refine on 255 q11 ?_
      refine on 127 q11 ?_
      refine on 1023 q11 ?_
      refine on 2047 q11 ?_
      refine on 4095 q11 ?_
      refine on 8191 q11 ?_
      refine on 16383 q11 ?_
      refine obn 32767 (fun S hle hfr=>.inr ⟨.inr (.inr ⟨_,_,_,rfl,rfl,(hle.ev (x:=.tmp _) rfl (by nofun)),(by rw [hle.nt];rfl),rfl⟩),rfl,hle.d rfl⟩) ?_
      refine obn 32767 (fun S hle hfr=>.inr ⟨.inr (.inr ⟨_,_,_,rfl,rfl,(hle.ev (x:=.tmp _) rfl (by nofun)),(by rw [hle.nt];rfl),rfl⟩),rfl,hle.d rfl⟩) ?_
      refine obn 131071 (fun S hle hfr=>.inr ⟨.inr (.inr ⟨_,_,_,rfl,rfl,(hle.ev (x:=.tmp _) rfl (by nofun)),(by rw [hle.nt];rfl),rfl⟩),rfl,hle.d rfl⟩) ?_
      refine obn 262143 (fun S hle hfr=>.inr ⟨.inr (.inr ⟨_,_,_,rfl,rfl,(hle.ev (x:=.tmp _) rfl (by nofun)),(by rw [hle.nt];rfl),rfl⟩),rfl,hle.d rfl⟩) ?_
      refine obn 524287 (fun S hle hfr=>.inr ⟨.inr (.inr ⟨_,_,_,rfl,rfl,(hle.ev (x:=.tmp _) rfl (by nofun)),(by rw [hle.nt];rfl),rfl⟩),rfl,hle.d rfl⟩) ?_
      refine obn 32767 (fun S hle hfr=>.inr ⟨.inr (.inr ⟨_,_,_,rfl,rfl,(hle.ev (x:=.tmp _) rfl (by nofun)),(by rw [hle.nt];rfl),rfl⟩),rfl,hle.d rfl⟩) ?_
      refine obn 1081343 (fun S hle hfr=>.inr ⟨.inr (.inr ⟨_,_,_,rfl,rfl,(hle.ev (x:=.tmp _) rfl (by nofun)),(by rw [hle.nt];rfl),rfl⟩),rfl,hle.d rfl⟩) ?_
      refine obn 32767 (fun S hle hfr=>.inr ⟨.inr (.inr ⟨_,_,_,rfl,rfl,(hle.ev (x:=.tmp _) rfl (by nofun)),(by rw [hle.nt];rfl),rfl⟩),rfl,hle.d rfl⟩) ?_
      refine obn 7372799 (fun S hle hfr=>.inr ⟨.inr (.inr ⟨_,_,_,rfl,rfl,(hle.ev (x:=.tmp _) rfl (by nofun)),(by rw [hle.nt];rfl),rfl⟩),rfl,hle.d rfl⟩) ?_
      refine obn 15761407 (fun S hle hfr=>.inr ⟨.inr (.inr ⟨_,_,_,rfl,rfl,(hle.ev (x:=.tmp _) rfl (by nofun)),(by rw [hle.nt];rfl),rfl⟩),rfl,hle.d rfl⟩) ?_
      refine obn 32538623 (fun S hle hfr=>.inr ⟨.inr (.inr ⟨_,_,_,rfl,rfl,(hle.ev (x:=.tmp _) rfl (by nofun)),(by rw [hle.nt];rfl),rfl⟩),rfl,hle.d rfl⟩) ?_
      exact trivial
     case hk268x=>rfl
     case hf268x=>rfl
     iterate 3 refine aops_und rfl rfl rfl rfl rfl ?_
     refine np q11 ?_
     refine s_py q11 ?_
     refine aops_nil (aw_yes rfl (rfl) (aw_seq (aw_region ?_)))
     iterate 2 refine s_sa ?_
     refine aops_nil ?_
     cases sj j8
     replace l6:=onS_r l6
     cases sj l6
     replace h:=onS_r h
     cases sj h
     exact aw_ret ⟨rfl,rv (rn (.cons o1 (.cons o1 .nil)))⟩
    obtain ⟨g12,j8⟩:=ifp_s j8
    rcases co j8 with ⟨q13,j8⟩|⟨q13,j8⟩
    ·obtain ⟨g14,j8⟩:=ifp_s j8
     obtain ⟨g15,j8⟩:=ifp_s j8
     obtain ⟨g16,j8⟩:=ifp_s j8
     refine aw_seq ?_
     apply aw_draw 26 [ad _,ad _,ad _,ad _,ad _,ad _,ad _,ad _,ad _,ad _,ad _,ad _,ad _,ad _,ad _,ad _,ad _,ad _,ad _,ad _,ad _,ad _,ad _,ad _,ad _,ad _] (by decide) rfl ?hk269x ?hf269x ?ho269x ?hr269x
     case ho269x =>
      refine o_mv 0 ?_
      refine o_mv 0 ?_
      refine obn 3 (fun S hle hfr=>.inl ⟨w0,zbI (hle.e rfl) (hle.heap _ _ rfl) (hle.e rfl) rfl g10 (hle.d rfl)⟩) ?_
      refine o_fr 7 ?_
      refine obn 15 (fun S hle hfr=>.inl ⟨w0,zcD (hle.e rfl) (hle.heap _ _ rfl) g10 rfl (hle.d rfl)⟩) ?_
      refine o_nt 31 ?_
      refine o_mv 63 ?_
      refine p_fd 127 q11 ?_
      refine p_ld 255 q11 ?_
      refine p_mv 127 q11 ?_
      refine obn 1023 (fun S hle hfr=>.inl ⟨wy hle q11,zaf (hle.e rfl) (hle.e rfl) rfl g12 rfl (hle.d rfl)⟩) ?_
      refine p_fi 2047 q11 ?_
      refine p_li 4095 q11 ?_
      refine p_cm 8191 q11 ?_
      refine p_mv 16383 q11 ?_
      refine p_mv 32767 q13 ?_
      refine p_mv 32767 q13 ?_
      refine obn 131071 (fun S hle hfr=>.inl ⟨wy hle q13,zbI (hle.e rfl) (hle.heap _ _ rfl) (hle.e rfl) rfl g14 (hle.d rfl)⟩) ?_
      refine p_fr 262143 q13 ?_
      refine obn 524287 (fun S hle hfr=>.inl ⟨wy hle q13,zcD (hle.e rfl) (hle.heap _ _ rfl) g14 rfl (hle.d rfl)⟩) ?_
      refine p_fd 32767 q13 ?_
      refine p_ld 1081343 q13 ?_
      refine p_mv 32767 q13 ?_
      refine obn 7372799 (fun S hle hfr=>.inl ⟨wy hle q13,zaf (hle.e rfl) (hle.e rfl) rfl g15 rfl (hle.d rfl)⟩) ?_
      refine p_fi 15761407 q13 ?_
      refine p_li 32538623 q13 ?_
      exact trivial
     case hk269x=>rfl
     case hf269x=>rfl
     refine aops_yes rfl rfl rfl rfl q13 (zaf rfl rfl (idx_eq g16) (idx_lt g16) rfl rfl) (aops_yes rfl rfl rfl rfl q13 (zas rfl rfl rfl) (y_nt q13 ?_))
     refine aops_yes rfl rfl rfl rfl q11 (zau rfl (by first|rfl|exact q13) rfl rfl) (s_pn q11 (aops_nil ?_))
     refine aw_if j8 (fun c17 j8=>?_) (fun c17 j8=>?_)
     ·refine aw_seq (aw_region ?_)
      iterate 2 refine s_sa ?_
      refine aops_nil ?_
      cases sj j8
      replace l6:=onS_r l6
      cases sj l6
      replace h:=onS_r h
      cases sj h
      exact aw_ret ⟨rfl,rv (rn (.cons o1 (.cons o1 .nil)))⟩
     refine aw_skip ?_
     show ∃_x:Unit,_=_∧Weak _ _
     exact ⟨(),sj j8,wk⟩
    refine aw_seq ?_
    apply aw_draw 26 [ad _,ad _,ad _,ad _,ad _,ad _,ad _,ad _,ad _,ad _,ad _,ad _,ad _,ad _,ad _,ad _,ad _,ad _,ad _,ad _,ad _,ad _,ad _,ad _,ad _,ad _] (by decide) rfl ?hk270x ?hf270x ?ho270x ?hr270x
    case ho270x =>
     refine o_mv 0 ?_
     refine o_mv 0 ?_
     refine obn 3 (fun S hle hfr=>.inl ⟨w0,zbI (hle.e rfl) (hle.heap _ _ rfl) (hle.e rfl) rfl g10 (hle.d rfl)⟩) ?_
     refine o_fr 7 ?_
     refine obn 15 (fun S hle hfr=>.inl ⟨w0,zcD (hle.e rfl) (hle.heap _ _ rfl) g10 rfl (hle.d rfl)⟩) ?_
     refine o_nt 31 ?_
     refine o_mv 63 ?_
     refine p_fd 127 q11 ?_
     refine p_ld 255 q11 ?_
     refine p_mv 127 q11 ?_
     refine obn 1023 (fun S hle hfr=>.inl ⟨wy hle q11,zaf (hle.e rfl) (hle.e rfl) rfl g12 rfl (hle.d rfl)⟩) ?_
     refine p_fi 2047 q11 ?_
     refine p_li 4095 q11 ?_
     refine p_cm 8191 q11 ?_
     refine p_mv 16383 q11 ?_
     refine on 32767 q13 ?_
     refine on 32767 q13 ?_
     refine on 131071 q13 ?_
     refine on 262143 q13 ?_
     refine on 524287 q13 ?_
     refine on 32767 q13 ?_
     refine on 1081343 q13 ?_
     refine on 32767 q13 ?_
     refine on 7372799 q13 ?_
     refine on 15761407 q13 ?_
     refine on 32538623 q13 ?_
     exact trivial
    case hk270x=>rfl
    case hf270x=>rfl
    iterate 3 refine np q13 ?_
    refine aops_yes rfl rfl rfl rfl q11 (zaz rfl (by first|rfl|exact q13) rfl rfl) (s_pn q11 ?_)
    refine aops_nil (aw_no rfl (rfl) (aw_skip ?_))
    show ∃_x:Unit,_=_∧Weak _ _
    exact ⟨(),sj j8,wk⟩
   refine aw_exit ?_
   show ∃_x:Unit,_=_∧Weak _ _
   exact ⟨(),sj l6,wk⟩
  intro p5
  obtain ⟨⟨n5,s5_0,s5_1⟩,l5⟩:=p5
  change AW _ _ (⟨193,[],[(3,.one (.ptr 0 0)),(4,.one (.ptr 1 0)),(5,.one (.ptr 2 0)),(8,.one (.own 3)),(11,vB s5_0)],[(0,some (.box [CV.ls zab a0.Types])),(1,some (.box (zab a1))),(2,some (.box (zad a2))),(3,some (.row 67 3 s5_1.length (lsEl zah s5_1)))]⟩:ASt) _
  replace l5:zaZ k a0 a1 a2 n5 s5_0 s5_1=some o5:=l5
  rcases n5 with _|n5
  ·exact absurd (show none=some o5 from l5) nofun
  rw [zaZ] at l5
  refine aw_seq (aw_seq (aw_region (s_mv (aops_nil ?_))))
  refine aw_if l5 (fun c18 l5=>?_) (fun c18 l5=>?_)
  ·refine aw_skip (aw_block (aw_seq (aw_region (s_sa ?_))))
   refine aops_nil (aw_seq (aw_region (s_sa (aops_nil (aw_block ?_)))))
   obtain ⟨o19,ho19,l5⟩:=bind_s l5
   refine aw_loop (ι:={p:Nat×Bool×Nat×(List Actorgridref20Point) // zbf k a0 a1 a2 p.1 p.2.1 p.2.2.1 p.2.2.2=some o19}) (fun p=>(⟨193,[],[(3,.one (.ptr 0 0)),(4,.one (.ptr 1 0)),(5,.one (.ptr 2 0)),(8,.one (.own 3)),(11,vB p.1.2.1),(12,vI ((p.1.2.2.1:Nat):Int))],[(0,some (.box [CV.ls zab a0.Types])),(1,some (.box (zab a1))),(2,some (.box (zad a2))),(3,some (.row 67 3 p.1.2.2.2.length (lsEl zah p.1.2.2.2)))]⟩:ASt)) (fun p=>p.1.1) ⟨(k,false,0,s5_1),ho19⟩ wk ?_
   intro p19
   obtain ⟨⟨n19,s19_0,s19_1,s19_2⟩,l19⟩:=p19
   change AW _ _ (⟨193,[],[(3,.one (.ptr 0 0)),(4,.one (.ptr 1 0)),(5,.one (.ptr 2 0)),(8,.one (.own 3)),(11,vB s19_0),(12,vI ((s19_1:Nat):Int))],[(0,some (.box [CV.ls zab a0.Types])),(1,some (.box (zab a1))),(2,some (.box (zad a2))),(3,some (.row 67 3 s19_2.length (lsEl zah s19_2)))]⟩:ASt) _
   replace l19:zbf k a0 a1 a2 n19 s19_0 s19_1 s19_2=some o19:=l19
   rcases n19 with _|n19
   ·exact absurd (show none=some o19 from l19) nofun
   rw [zbf] at l19
   refine aw_seq (aw_seq (aw_region (s_mv ?_)))
   refine s_fd ?_
   refine s_ld ?_
   refine s_ln ?_
   refine s_cm (aops_nil ?_)
   refine aw_if l19 (fun c20 l19=>?_) (fun c20 l19=>?_)
   ·refine aw_skip ?_
    obtain ⟨o21,j21,l19⟩:=bind_s l19
    refine aw_cut (ε:=(Bool×(List Actorgridref20Point))) (fun x=>(⟨193,[],[(3,.one (.ptr 0 0)),(4,.one (.ptr 1 0)),(5,.one (.ptr 2 0)),(8,.one (.own 3)),(11,vB x.1),(12,vI ((s19_1:Nat):Int))],[(0,some (.box [CV.ls zab a0.Types])),(1,some (.box (zab a1))),(2,some (.box (zad a2))),(3,some (.row 67 3 x.2.length (lsEl zah x.2)))]⟩:ASt)) (fun x=>Sum.inl x=o21) ?_ ?_
    ·intro x21_0 hI21
     subst hI21
     replace l19:=onS_l l19
     change AW _ _ (⟨193,[],[(3,.one (.ptr 0 0)),(4,.one (.ptr 1 0)),(5,.one (.ptr 2 0)),(8,.one (.own 3)),(11,vB x21_0.1),(12,vI ((s19_1:Nat):Int))],[(0,some (.box [CV.ls zab a0.Types])),(1,some (.box (zab a1))),(2,some (.box (zad a2))),(3,some (.row 67 3 x21_0.2.length (lsEl zah x21_0.2)))]⟩:ASt) _
     refine aw_region (s_mv ?_)
     obtain ⟨g22,l19⟩:=ifp_s l19
     refine zaa rfl (ev_add rfl rfl rfl (nat_add g22)) (s_sa (aops_nil ?_))
     exact ⟨⟨(n19,x21_0.1,(s19_1+1),x21_0.2),l19⟩,Nat.lt_succ_self _,wk⟩
    refine aw_block (aw_seq (aw_seq (aw_region ?_)))
    iterate 2 refine s_mv ?_
    obtain ⟨g23,j21⟩:=ifp_s j21
    refine zaa rfl (zbI rfl rfl rfl rfl g23 rfl) (zaa rfl (zec rfl rfl rfl) (zaa rfl (zcD rfl rfl g23 rfl rfl) (s_nt (aops_nil ?_))))
    refine aw_if j21 (fun c24 j21=>?_) (fun c24 j21=>?_)
    ·refine aw_exit ?_
     show ∃_x:Bool×(List Actorgridref20Point),_=_∧Weak _ _
     exact ⟨(s19_0,s19_2),sj j21,wk⟩
    refine aw_skip (aw_seq (aw_region (s_fd ?_)))
    refine s_ld ?_
    refine s_mv ?_
    obtain ⟨g25,j21⟩:=ifp_s j21
    refine zaa rfl (zaf rfl rfl rfl g25 rfl rfl) (zaa rfl (zaI (ds:=[_,_,_,_,_,_,_,_]) rfl rfl rfl rfl) ?_)
    refine zaa rfl (st_alloc (cs:=[cI 0,cI 0,cI 0,cI 0,cI 0,.val (Sv []),.val (.slice none 0 0),.val (.slice none 0 0)]) 5 rfl rfl rfl rfl rfl) (s_st [_,_,_,_,_,_,_,_] (aops_nil ?_))
    obtain ⟨g26,j21⟩:=ifp_s j21
    obtain ⟨x27,hx27,j21⟩:=bind_s j21
    refine aw_seq ?_
    apply aw_draw 11 ((⟨[],.agg [CV.ls zab a0.Types]⟩:Add)::⟨[],.agg (zab a1)⟩::⟨[],.agg (zad a2)⟩::⟨[],.agg (c_Instr (a2.Code.getD s19_1 default))⟩::⟨[],.one (.own 3)⟩::⟨[],vI ((s19_1:Nat):Int)⟩::⟨[],.one (.rptr 3 _ _ _)⟩::⟨[],.one (.rptr 3 _ _ _)⟩::⟨[],.one (CV.ls c_Int ((s19_2.getD s19_1 default).Stack))⟩::⟨[],.agg (zdy x27)⟩::⟨[(6,some (.box [cI 0,.val (.slice none 0 0),cB false]))],.one (.ptr 6 _)⟩::[]) (by decide) rfl ?hk376x ?hf376x ?ho376x ?hr376x
    case ho376x =>
     refine obn 0 (fun S hle hfr=>.inl ⟨w0,ev_loads (ds:=[_]) (hle.e rfl) (hle.heap _ _ rfl) rfl rfl (hle.d rfl)⟩) ?_
     refine obn 0 (fun S hle hfr=>.inl ⟨w0,ev_loads (ds:=[_,_,_]) (hle.e rfl) (hle.heap _ _ rfl) rfl rfl (hle.d rfl)⟩) ?_
     refine obn 0 (fun S hle hfr=>.inl ⟨w0,ev_loads (ds:=[_,_,_,_,_]) (hle.e rfl) (hle.heap _ _ rfl) rfl rfl (hle.d rfl)⟩) ?_
     refine obn 0 (fun S hle hfr=>.inl ⟨w0,ev_loads (ds:=[_,_,_,_,_,_,_,_]) (hle.e rfl) (hle.heap _ _ rfl) rfl rfl (hle.d rfl)⟩) ?_
     refine o_mv 0 ?_
     refine o_mv 0 ?_
     refine obn 48 (fun S hle hfr=>.inl ⟨w0,zbI (hle.e rfl) (hle.heap _ _ rfl) (hle.e rfl) rfl g26 (hle.d rfl)⟩) ?_
     refine o_fr 112 ?_
     refine obn 240 (fun S hle hfr=>.inl ⟨w0,zcD (hle.e rfl) (hle.heap _ _ rfl) g26 rfl (hle.d rfl)⟩) ?_
     refine obn 511 (fun S hle hfr=>.inl ⟨w0,ev_call_v (zfW hx27) (map_ev (.cons (hle.e rfl) (.cons (hle.e rfl) (.cons (hle.e rfl) (.cons (hle.e rfl) (.cons (hle.e rfl) (.nil))))))) [] (by repeat' (first|exact .nil|refine .cons ?_ ?_|refine .one ?_|refine .agg ?_|exact .mk rfl|exact .lend (hle.heap _ _ rfl) (by simp)|exact .le (.nil _) rfl|exact .le (.emp _) rfl|exact .le (.any _) rfl|fail)) rfl rfl rfl (.inl rfl) (hle.d rfl)⟩) ?_
     refine obn 0 (fun S hle hfr=>.inl ⟨w0,st_alloc (cs:=[cI 0,.val (.slice none 0 0),cB false]) 6 (hfr _ (List.mem_singleton.2 rfl)) rfl rfl rfl (hle.d rfl)⟩) ?_
     exact trivial
    case hk376x=>rfl
    case hf376x=>rfl
    refine s_st [_,_,_] ?_
    refine aops_nil (aw_seq (aw_seq (aw_region (s_fd ?_))))
    refine s_ld ?_
    refine s_nt (aops_nil ?_)
    refine aw_if j21 (fun c28 j21=>?_) (fun c28 j21=>?_)
    ·refine aw_seq (aw_region ?_)
     iterate 2 refine s_sa ?_
     refine aops_nil ?_
     cases sj j21
     replace l19:=onS_r l19
     cases sj l19
     replace l5:=onS_r l5
     cases sj l5
     replace h:=onS_r h
     cases sj h
     exact aw_ret ⟨rfl,rv (rn (.cons o1 (.cons o1 .nil)))⟩
    refine aw_skip ?_
    obtain ⟨o29,j29,j21⟩:=bind_s j21
    refine aw_cutE o29 (fun x=>(⟨193,[],[(3,.one (.ptr 0 0)),(4,.one (.ptr 1 0)),(5,.one (.ptr 2 0)),(8,.one (.own 3)),(11,vB s19_0),(12,vI ((s19_1:Nat):Int)),(13,.one (.ptr 5 0)),(15,.one (CV.ls c_Int x))],[(0,some (.box [CV.ls zab a0.Types])),(1,some (.box (zab a1))),(2,some (.box (zad a2))),(3,some (.row 67 3 s19_2.length (lsEl zah s19_2))),(5,some (.box (c_Instr (a2.Code.getD s19_1 default))))]⟩:ASt)) ?_ ?_
    ·refine aw_seq (aw_seq (aw_region (s_mv ?_)))
     refine s_ln ?_
     refine s_cm (aops_nil ?_)
     refine aw_if j21 (fun c30 j21=>?_) (fun c30 j21=>?_)
     ·refine aw_seq (aw_region ?_)
      iterate 2 refine s_sa ?_
      refine aops_nil ?_
      cases sj j21
      replace l19:=onS_r l19
      cases sj l19
      replace l5:=onS_r l5
      cases sj l5
      replace h:=onS_r h
      cases sj h
      exact aw_ret ⟨rfl,rv (rn (.cons o1 (.cons o1 .nil)))⟩
     refine aw_skip (aw_seq (aw_region ?_))
     refine zaa rfl (zac (el:=lsEl c_Bool ([]:List Bool)) 7 rfl rfl rfl rfl rfl rfl rfl rfl (lit_el c_Bool 1 ([]:List Bool) (fun _=>rfl)) rfl) ?_
     iterate 2 refine s_mv ?_
     obtain ⟨g31,j21⟩:=ifp_s j21
     refine zaa rfl (zbI rfl rfl rfl rfl g31 rfl) (zaa rfl (zec rfl rfl rfl) (zaa rfl (zcD rfl rfl g31 rfl rfl) ?_))
     obtain ⟨g32,j21⟩:=ifp_s j21
     refine zaa rfl (st_app_ls (f:=c_Bool) ([]:List Bool) ((s19_2.getD s19_1 default).Set) (fun _=>rfl) rfl rfl (.inl rfl) (by omega) (by omega) rfl) (s_sa ?_)
     refine aops_nil (aw_seq (aw_seq (aw_region (s_fd ?_))))
     refine s_ld ?_
     refine s_cm (aops_nil ?_)
     refine aw_if j21 (fun c33 j21=>?_) (fun c33 j21=>?_)
     ·refine aw_region (s_mv ?_)
      refine s_fd ?_
      refine s_ld ?_
      obtain ⟨g34,j21⟩:=ifp_s j21
      refine zaa rfl (zbI rfl rfl rfl (idx_eq g34) (idx_lt g34) rfl) ?_
      refine zaa rfl (zhx (l:=(([]:List Bool)++((s19_2.getD s19_1 default).Set))) true (fun _=>rfl) rfl rfl (idx_lt g34) rfl rfl rfl rfl rfl) ?_
      refine aops_nil (aw_seq (aw_region (s_ls [_,_,_,_,_] ?_)))
      refine s_mv ?_
      obtain ⟨x35,hx35,j21⟩:=bind_s j21
      refine zaa rfl (ev_call_v (zed hx35) rfl [] ai rfl rfl rfl (.inl rfl) rfl) (s_sa ?_)
      refine aops_nil (aw_seq (aw_region (s_sa ?_)))
      refine aops_nil (aw_block (aw_freeze 7 rfl ?_))
      obtain ⟨o36,ho36,j21⟩:=bind_s j21
      refine aw_loop (ι:={p:Nat×Bool×Nat×(List Actorgridref20Point) // zbC k a2 s19_1 s19_2 o29 x35 p.1 p.2.1 p.2.2.1 p.2.2.2=some o36}) (fun p=>(⟨193,[],[(3,.one (.ptr 0 0)),(4,.one (.ptr 1 0)),(5,.one (.ptr 2 0)),(8,.one (.own 3)),(11,vB p.1.2.1),(12,vI ((s19_1:Nat):Int)),(15,.one (CV.ls c_Int o29)),(16,.one (CV.ls c_Bool ((([]:List Bool)++((s19_2.getD s19_1 default).Set)).set ((((a2.Code.getD s19_1 default).A)).toNat) true))),(17,.one (CV.ls c_Int x35)),(18,vI ((p.1.2.2.1:Nat):Int))],[(0,some (.box [CV.ls zab a0.Types])),(1,some (.box (zab a1))),(2,some (.box (zad a2))),(3,some (.row 67 3 p.1.2.2.2.length (lsEl zah p.1.2.2.2)))]⟩:ASt)) (fun p=>p.1.1) ⟨(k,s19_0,0,s19_2),ho36⟩ wk ?_
      intro p36
      obtain ⟨⟨n36,s36_0,s36_1,s36_2⟩,l36⟩:=p36
      change AW _ _ (⟨193,[],[(3,.one (.ptr 0 0)),(4,.one (.ptr 1 0)),(5,.one (.ptr 2 0)),(8,.one (.own 3)),(11,vB s36_0),(12,vI ((s19_1:Nat):Int)),(15,.one (CV.ls c_Int o29)),(16,.one (CV.ls c_Bool ((([]:List Bool)++((s19_2.getD s19_1 default).Set)).set ((((a2.Code.getD s19_1 default).A)).toNat) true))),(17,.one (CV.ls c_Int x35)),(18,vI ((s36_1:Nat):Int))],[(0,some (.box [CV.ls zab a0.Types])),(1,some (.box (zab a1))),(2,some (.box (zad a2))),(3,some (.row 67 3 s36_2.length (lsEl zah s36_2)))]⟩:ASt) _
      replace l36:zbC k a2 s19_1 s19_2 o29 x35 n36 s36_0 s36_1 s36_2=some o36:=l36
      rcases n36 with _|n36
      ·exact absurd (show none=some o36 from l36) nofun
      rw [zbC] at l36
      refine aw_seq (aw_seq (aw_region ?_))
      iterate 2 refine s_mv ?_
      refine s_ln ?_
      refine s_cm (aops_nil ?_)
      refine aw_if l36 (fun c37 l36=>?_) (fun c37 l36=>?_)
      ·refine aw_skip (aw_seq (aw_block (aw_seq (aw_seq (aw_region ?_)))))
       iterate 2 refine s_mv ?_
       obtain ⟨g38,l36⟩:=ifp_s l36
       refine zaa rfl (zaf rfl rfl rfl g38 rfl rfl) (zaa rfl (zas rfl rfl rfl) (s_cm (aops_nil ?_)))
       refine aw_if l36 (fun c39 l36=>?_) (fun c39 l36=>?_)
       ·refine aw_seq (aw_region ?_)
        iterate 2 refine s_sa ?_
        refine aops_nil ?_
        cases sj l36
        replace j21:=onS_r j21
        cases sj j21
        replace l19:=onS_r l19
        cases sj l19
        replace l5:=onS_r l5
        cases sj l5
        replace h:=onS_r h
        cases sj h
        exact aw_ret ⟨rfl,rv (rn (.cons o1 (.cons o1 .nil)))⟩
       refine aw_skip (aw_seq (aw_region ?_))
       iterate 3 refine s_mv ?_
       obtain ⟨g40,l36⟩:=ifp_s l36
       refine zaa rfl (zaf rfl rfl rfl g40 rfl rfl) (zaa rfl (zas rfl rfl rfl) ?_)
       obtain ⟨g41,l36⟩:=ifp_s l36
       refine zaa rfl (zbI rfl rfl rfl (idx_eq g41) (idx_lt g41) rfl) ?_
       refine zaa rfl (zfn (ds:=[_,_,_]) rfl rfl (idx_lt g41) rfl rfl rfl) ?_
       iterate 2 refine s_mv ?_
       obtain ⟨x42,hx42,l36⟩:=bind_s l36
       refine zaa rfl (ev_call_v (zeY hx42) rfl [] ai rfl rfl rfl (.inl rfl) rfl) (s_mt ?_)
       iterate 3 refine s_ex ?_
       refine zaa rfl (st_alloc (cs:=[cB false,.val (.slice none 0 0),.val (.slice none 0 0)]) 8 rfl rfl rfl rfl rfl) (s_st [_,_,_] ?_)
       iterate 2 refine s_sa ?_
       refine aops_nil (aw_seq (aw_seq (aw_region (s_mv ?_))))
       refine s_nt (aops_nil ?_)
       refine aw_if l36 (fun c43 l36=>?_) (fun c43 l36=>?_)
       ·refine aw_seq (aw_region ?_)
        iterate 2 refine s_sa ?_
        refine aops_nil ?_
        cases sj l36
        replace j21:=onS_r j21
        cases sj j21
        replace l19:=onS_r l19
        cases sj l19
        replace l5:=onS_r l5
        cases sj l5
        replace h:=onS_r h
        cases sj h
        exact aw_ret ⟨rfl,rv (rn (.cons o1 (.cons o1 .nil)))⟩
       refine aw_skip ?_
       obtain ⟨g44,l36⟩:=ifp_s l36
       obtain ⟨g45,l36⟩:=ifp_s l36
       refine aw_seq ?_
       apply aw_draw 6 [ad _,ad _,ad _,ad _,ad _,ad _] (by decide) rfl ?hk386x ?hf386x ?ho386x ?hr386x
       case ho386x =>
        iterate 3 refine ob [] (fun S hle hfr=>.inl ⟨w0,st_move (hle.e rfl) (hle.d rfl)⟩) ?_
        refine obn 6 (fun S hle hfr=>.inl ⟨w0,zaf (hle.e rfl) (hle.e rfl) rfl g44 rfl (hle.d rfl)⟩) ?_
        refine o_li 14 ?_
        refine obn 0 (fun S hle hfr=>.inl ⟨w0,ev_loads (ds:=[_,_,_]) (hle.e rfl) (hle.heap _ _ rfl) rfl rfl (hle.d rfl)⟩) ?_
        exact trivial
       case hk386x=>rfl
       case hf386x=>rfl
       refine zaa rfl (zbI rfl rfl rfl (idx_eq g45) (idx_lt g45) rfl) ?_
       refine zaa rfl (zex (l:=s36_2) (f:=zah) x42.1 (fun _=>rfl) rfl rfl (idx_lt g45) rfl rfl (by repeat' (first|exact .nil|refine .cons ?_ ?_|exact .refl _|exact .nil _|fail)) rfl rfl rfl rfl rfl) ?_
       refine aops_nil (aw_region ?_)
       iterate 2 refine s_mv ?_
       refine bo 2 (s36_0||x42.2.1) ?_
       refine s_sa ?_
       refine aops_nil (aw_region (s_mv ?_))
       obtain ⟨g47,l36⟩:=ifp_s l36
       refine zaa rfl (ev_add rfl rfl rfl (nat_add g47)) (s_sa (aops_nil ?_))
       exact ⟨⟨(n36,(s36_0||x42.2.1),(s36_1+1),(s36_2.set (((x35.getD s36_1 default)).toNat) x42.1)),l36⟩,Nat.lt_succ_self _,wk⟩
      refine aw_exit ?_
      have e36:=sj l36
      subst e36
      replace j21:=onS_l j21
      show ∃_x:Bool×(List Actorgridref20Point),_=_∧Weak _ _
      exact ⟨(s36_0,s36_2),sj j21,wk⟩
     refine aw_skip (aw_seq (aw_region (s_ls [_,_,_,_,_] ?_)))
     refine s_mv ?_
     obtain ⟨x48,hx48,j21⟩:=bind_s j21
     refine zaa rfl (ev_call_v (zed hx48) rfl [] ai rfl rfl rfl (.inl rfl) rfl) (s_sa ?_)
     refine aops_nil (aw_seq (aw_region (s_sa ?_)))
     refine aops_nil (aw_block (aw_freeze 7 rfl ?_))
     obtain ⟨o49,ho49,j21⟩:=bind_s j21
     refine aw_loop (ι:={p:Nat×Bool×Nat×(List Actorgridref20Point) // zbD k s19_1 s19_2 o29 x48 p.1 p.2.1 p.2.2.1 p.2.2.2=some o49}) (fun p=>(⟨193,[],[(3,.one (.ptr 0 0)),(4,.one (.ptr 1 0)),(5,.one (.ptr 2 0)),(8,.one (.own 3)),(11,vB p.1.2.1),(12,vI ((s19_1:Nat):Int)),(15,.one (CV.ls c_Int o29)),(16,.one (CV.ls c_Bool (([]:List Bool)++((s19_2.getD s19_1 default).Set)))),(17,.one (CV.ls c_Int x48)),(18,vI ((p.1.2.2.1:Nat):Int))],[(0,some (.box [CV.ls zab a0.Types])),(1,some (.box (zab a1))),(2,some (.box (zad a2))),(3,some (.row 67 3 p.1.2.2.2.length (lsEl zah p.1.2.2.2)))]⟩:ASt)) (fun p=>p.1.1) ⟨(k,s19_0,0,s19_2),ho49⟩ wk ?_
     intro p49
     obtain ⟨⟨n49,s49_0,s49_1,s49_2⟩,l49⟩:=p49
     change AW _ _ (⟨193,[],[(3,.one (.ptr 0 0)),(4,.one (.ptr 1 0)),(5,.one (.ptr 2 0)),(8,.one (.own 3)),(11,vB s49_0),(12,vI ((s19_1:Nat):Int)),(15,.one (CV.ls c_Int o29)),(16,.one (CV.ls c_Bool (([]:List Bool)++((s19_2.getD s19_1 default).Set)))),(17,.one (CV.ls c_Int x48)),(18,vI ((s49_1:Nat):Int))],[(0,some (.box [CV.ls zab a0.Types])),(1,some (.box (zab a1))),(2,some (.box (zad a2))),(3,some (.row 67 3 s49_2.length (lsEl zah s49_2)))]⟩:ASt) _
     replace l49:zbD k s19_1 s19_2 o29 x48 n49 s49_0 s49_1 s49_2=some o49:=l49
     rcases n49 with _|n49
     ·exact absurd (show none=some o49 from l49) nofun
     rw [zbD] at l49
     refine aw_seq (aw_seq (aw_region ?_))
     iterate 2 refine s_mv ?_
     refine s_ln ?_
     refine s_cm (aops_nil ?_)
     refine aw_if l49 (fun c50 l49=>?_) (fun c50 l49=>?_)
     ·refine aw_skip (aw_seq (aw_block (aw_seq (aw_seq (aw_region ?_)))))
      iterate 2 refine s_mv ?_
      obtain ⟨g51,l49⟩:=ifp_s l49
      refine zaa rfl (zaf rfl rfl rfl g51 rfl rfl) (zaa rfl (zas rfl rfl rfl) (s_cm (aops_nil ?_)))
      refine aw_if l49 (fun c52 l49=>?_) (fun c52 l49=>?_)
      ·refine aw_seq (aw_region ?_)
       iterate 2 refine s_sa ?_
       refine aops_nil ?_
       cases sj l49
       replace j21:=onS_r j21
       cases sj j21
       replace l19:=onS_r l19
       cases sj l19
       replace l5:=onS_r l5
       cases sj l5
       replace h:=onS_r h
       cases sj h
       exact aw_ret ⟨rfl,rv (rn (.cons o1 (.cons o1 .nil)))⟩
      refine aw_skip (aw_seq (aw_region ?_))
      iterate 3 refine s_mv ?_
      obtain ⟨g53,l49⟩:=ifp_s l49
      refine zaa rfl (zaf rfl rfl rfl g53 rfl rfl) (zaa rfl (zas rfl rfl rfl) ?_)
      obtain ⟨g54,l49⟩:=ifp_s l49
      refine zaa rfl (zbI rfl rfl rfl (idx_eq g54) (idx_lt g54) rfl) ?_
      refine zaa rfl (zfn (ds:=[_,_,_]) rfl rfl (idx_lt g54) rfl rfl rfl) ?_
      iterate 2 refine s_mv ?_
      obtain ⟨x55,hx55,l49⟩:=bind_s l49
      refine zaa rfl (ev_call_v (zeY hx55) rfl [] ai rfl rfl rfl (.inl rfl) rfl) (s_mt ?_)
      iterate 3 refine s_ex ?_
      refine zaa rfl (st_alloc (cs:=[cB false,.val (.slice none 0 0),.val (.slice none 0 0)]) 8 rfl rfl rfl rfl rfl) (s_st [_,_,_] ?_)
      iterate 2 refine s_sa ?_
      refine aops_nil (aw_seq (aw_seq (aw_region (s_mv ?_))))
      refine s_nt (aops_nil ?_)
      refine aw_if l49 (fun c56 l49=>?_) (fun c56 l49=>?_)
      ·refine aw_seq (aw_region ?_)
       iterate 2 refine s_sa ?_
       refine aops_nil ?_
       cases sj l49
       replace j21:=onS_r j21
       cases sj j21
       replace l19:=onS_r l19
       cases sj l19
       replace l5:=onS_r l5
       cases sj l5
       replace h:=onS_r h
       cases sj h
       exact aw_ret ⟨rfl,rv (rn (.cons o1 (.cons o1 .nil)))⟩
      refine aw_skip ?_
      obtain ⟨g57,l49⟩:=ifp_s l49
      obtain ⟨g58,l49⟩:=ifp_s l49
      refine aw_seq ?_
      apply aw_draw 6 [ad _,ad _,ad _,ad _,ad _,ad _] (by decide) rfl ?hk394x ?hf394x ?ho394x ?hr394x
      case ho394x =>
       iterate 3 refine ob [] (fun S hle hfr=>.inl ⟨w0,st_move (hle.e rfl) (hle.d rfl)⟩) ?_
       refine obn 6 (fun S hle hfr=>.inl ⟨w0,zaf (hle.e rfl) (hle.e rfl) rfl g57 rfl (hle.d rfl)⟩) ?_
       refine o_li 14 ?_
       refine obn 0 (fun S hle hfr=>.inl ⟨w0,ev_loads (ds:=[_,_,_]) (hle.e rfl) (hle.heap _ _ rfl) rfl rfl (hle.d rfl)⟩) ?_
       exact trivial
      case hk394x=>rfl
      case hf394x=>rfl
      refine zaa rfl (zbI rfl rfl rfl (idx_eq g58) (idx_lt g58) rfl) ?_
      refine zaa rfl (zex (l:=s49_2) (f:=zah) x55.1 (fun _=>rfl) rfl rfl (idx_lt g58) rfl rfl (by repeat' (first|exact .nil|refine .cons ?_ ?_|exact .refl _|exact .nil _|fail)) rfl rfl rfl rfl rfl) ?_
      refine aops_nil (aw_region ?_)
      iterate 2 refine s_mv ?_
      refine bo 2 (s49_0||x55.2.1) ?_
      refine s_sa ?_
      refine aops_nil (aw_region (s_mv ?_))
      obtain ⟨g60,l49⟩:=ifp_s l49
      refine zaa rfl (ev_add rfl rfl rfl (nat_add g60)) (s_sa (aops_nil ?_))
      exact ⟨⟨(n49,(s49_0||x55.2.1),(s49_1+1),(s49_2.set (((x48.getD s49_1 default)).toNat) x55.1)),l49⟩,Nat.lt_succ_self _,wk⟩
     refine aw_exit ?_
     have e49:=sj l49
     subst e49
     replace j21:=onS_l j21
     show ∃_x:Bool×(List Actorgridref20Point),_=_∧Weak _ _
     exact ⟨(s49_0,s49_2),sj j21,wk⟩
    obtain ⟨g61,j29⟩:=ifp_s j29
    obtain ⟨g62,j29⟩:=ifp_s j29
    obtain ⟨g63,j29⟩:=ifp_s j29
    obtain ⟨g64,j29⟩:=ifp_s j29
    rcases co j29 with ⟨q65,j29⟩|⟨q65,j29⟩
    ·obtain ⟨g66,j29⟩:=ifp_s j29
     apply aw_draw 19 [ad _,ad _,ad _,ad _,ad _,ad _,ad _,ad _,ad _,ad _,ad _,ad _,ad _,ad _,ad _,ad _,ad _,ad _,ad _] (by decide) rfl ?hk395x ?hf395x ?ho395x ?hr395x
     case ho395x =>
      refine obn 0 (fun S hle hfr=>.inl ⟨w0,zhy (hle.d rfl)⟩) ?_
      refine o_mv 0 ?_
      refine o_mv 0 ?_
      refine obn 6 (fun S hle hfr=>.inl ⟨w0,zbI (hle.e rfl) (hle.heap _ _ rfl) (hle.e rfl) rfl g61 (hle.d rfl)⟩) ?_
      refine o_fr 14 ?_
      refine obn 30 (fun S hle hfr=>.inl ⟨w0,zcD (hle.e rfl) (hle.heap _ _ rfl) g61 rfl (hle.d rfl)⟩) ?_
      refine o_mv 0 ?_
      refine o_mv 0 ?_
      refine obn 192 (fun S hle hfr=>.inl ⟨w0,zbI (hle.e rfl) (hle.heap _ _ rfl) (hle.e rfl) rfl g62 (hle.d rfl)⟩) ?_
      refine o_fr 448 ?_
      refine obn 960 (fun S hle hfr=>.inl ⟨w0,zcD (hle.e rfl) (hle.heap _ _ rfl) g62 rfl (hle.d rfl)⟩) ?_
      refine o_ln 1984 ?_
      refine o_fd 0 ?_
      refine o_ld 4096 ?_
      refine obn 16320 (fun S hle hfr=>.inl ⟨w0,ev_sub (hle.e rfl) (hle.e rfl) (hle.d rfl) (wrap_W _)⟩) ?_
      refine obn 32766 (fun S hle hfr=>.inl ⟨w0,st_cut_hi (f:=c_Int) (fun _=>rfl) (hle.e rfl) ⟨_,_,(hle.e rfl),(nn_eq g63)⟩ g64 (hle.d rfl)⟩) ?_
      refine obn 65535 (fun S hle hfr=>.inl ⟨w0,zih (f:=c_Int) (((s19_2.getD s19_1 default).Stack).take (((W (((((s19_2.getD s19_1 default).Stack).length:Nat):Int) - x27.Takes))).toNat)) (fun _=>rfl) (hle.e rfl) (.inl (hle.e rfl)) q65 (hle.d rfl)⟩) ?_
      refine o_fd 0 ?_
      refine o_ld 131072 ?_
      exact trivial
     case hk395x=>rfl
     case hf395x=>rfl
     refine zaa rfl (zzip (f:=c_Int) x27.Puts (fun _=>rfl) rfl (.inl rfl) (by omega) (by omega) rfl) (s_sa (aops_nil ?_))
     exact jx j29 wk
    obtain ⟨g67,j29⟩:=ifp_s j29
    obtain ⟨g68,j29⟩:=ifp_s j29
    apply aw_draw 19 ((⟨[],.one (.emp0)⟩:Add)::⟨[],.one (.own 3)⟩::⟨[],vI ((s19_1:Nat):Int)⟩::⟨[],.one (.rptr 3 _ _ _)⟩::⟨[],.one (.rptr 3 _ _ _)⟩::⟨[],.one (CV.ls c_Int ((s19_2.getD s19_1 default).Stack))⟩::⟨[],.one (.own 3)⟩::⟨[],vI ((s19_1:Nat):Int)⟩::⟨[],.one (.rptr 3 _ _ _)⟩::⟨[],.one (.rptr 3 _ _ _)⟩::⟨[],.one (CV.ls c_Int ((s19_2.getD s19_1 default).Stack))⟩::⟨[],vI ((((s19_2.getD s19_1 default).Stack).length:Nat):Int)⟩::⟨[],.one (.ptr 6 _)⟩::⟨[],vI x27.Takes⟩::⟨[],vI (W (((((s19_2.getD s19_1 default).Stack).length:Nat):Int) - x27.Takes))⟩::⟨[],.one (CV.ls c_Int (((s19_2.getD s19_1 default).Stack).take (((W (((((s19_2.getD s19_1 default).Stack).length:Nat):Int) - x27.Takes))).toNat)))⟩::⟨[(7,some (.row 3 1 (((s19_2.getD s19_1 default).Stack).take (((W (((((s19_2.getD s19_1 default).Stack).length:Nat):Int) - x27.Takes))).toNat)).length (lsEl c_Int (((s19_2.getD s19_1 default).Stack).take (((W (((((s19_2.getD s19_1 default).Stack).length:Nat):Int) - x27.Takes))).toNat)))))],.one (.own 7)⟩::⟨[],.one (.ptr 6 _)⟩::⟨[],.one (CV.ls c_Int x27.Puts)⟩::[]) (by decide) rfl ?hk396x ?hf396x ?ho396x ?hr396x
    case ho396x =>
     refine obn 0 (fun S hle hfr=>.inl ⟨w0,zhy (hle.d rfl)⟩) ?_
     refine o_mv 0 ?_
     refine o_mv 0 ?_
     refine obn 6 (fun S hle hfr=>.inl ⟨w0,zbI (hle.e rfl) (hle.heap _ _ rfl) (hle.e rfl) rfl g61 (hle.d rfl)⟩) ?_
     refine o_fr 14 ?_
     refine obn 30 (fun S hle hfr=>.inl ⟨w0,zcD (hle.e rfl) (hle.heap _ _ rfl) g61 rfl (hle.d rfl)⟩) ?_
     refine o_mv 0 ?_
     refine o_mv 0 ?_
     refine obn 192 (fun S hle hfr=>.inl ⟨w0,zbI (hle.e rfl) (hle.heap _ _ rfl) (hle.e rfl) rfl g62 (hle.d rfl)⟩) ?_
     refine o_fr 448 ?_
     refine obn 960 (fun S hle hfr=>.inl ⟨w0,zcD (hle.e rfl) (hle.heap _ _ rfl) g62 rfl (hle.d rfl)⟩) ?_
     refine o_ln 1984 ?_
     refine o_fd 0 ?_
     refine o_ld 4096 ?_
     refine obn 16320 (fun S hle hfr=>.inl ⟨w0,ev_sub (hle.e rfl) (hle.e rfl) (hle.d rfl) (wrap_W _)⟩) ?_
     refine obn 32766 (fun S hle hfr=>.inl ⟨w0,st_cut_hi (f:=c_Int) (fun _=>rfl) (hle.e rfl) ⟨_,_,(hle.e rfl),(nn_eq g63)⟩ g64 (hle.d rfl)⟩) ?_
     refine obn 65535 (fun S hle hfr=>.inl ⟨w0,zie (f:=c_Int) 7 (((s19_2.getD s19_1 default).Stack).take (((W (((((s19_2.getD s19_1 default).Stack).length:Nat):Int) - x27.Takes))).toNat)) (fun _=>rfl) (hfr _ (List.mem_singleton.2 rfl)) (hle.e rfl) (.inl (hle.e rfl)) q65 (fit8 g67) (by omega) (hle.d rfl)⟩) ?_
     refine o_fd 0 ?_
     refine o_ld 131072 ?_
     exact trivial
    case hk396x=>rfl
    case hf396x=>rfl
    refine zaa rfl (st_app_ls (f:=c_Int) (((s19_2.getD s19_1 default).Stack).take (((W (((((s19_2.getD s19_1 default).Stack).length:Nat):Int) - x27.Takes))).toNat)) x27.Puts (fun _=>rfl) rfl rfl (.inl rfl) (fit8 g68) (by omega) rfl) ?_
    refine zae 7 rfl (s_sa (aops_nil ?_))
    exact jx j29 wk
   refine aw_exit ?_
   have e19:=sj l19
   subst e19
   replace l5:=onS_l l5
   exact ⟨⟨(n5,s19_0,s19_2),l5⟩,Nat.lt_succ_self _,wk⟩
  refine aw_exit ?_
  show ∃_x:(List Actorgridref20Point),_=_∧Weak _ _
  exact ⟨s5_1,sj l5,wk⟩
 intro p3
 obtain ⟨⟨n3,s3_0,s3_1⟩,l3⟩:=p3
 change AW _ _ (⟨193,[],[(3,.one (.ptr 0 0)),(4,.one (.ptr 1 0)),(5,.one (.ptr 2 0)),(8,.one (.own 3)),(9,.one (.own 4)),(10,vI ((s3_0:Nat):Int))],[(0,some (.box [CV.ls zab a0.Types])),(1,some (.box (zab a1))),(2,some (.box (zad a2))),(3,some (.row 67 3 (List.replicate a2.Code.length (⟨false,([]:List Int),([]:List Bool)⟩:Actorgridref20Point)).length (lsEl zah (List.replicate a2.Code.length (⟨false,([]:List Int),([]:List Bool)⟩:Actorgridref20Point))))),(4,some (.row 4 1 s3_1.length (lsEl c_Bool s3_1)))]⟩:ASt) _
 replace l3:zbN k a2 n3 s3_0 s3_1=some o3:=l3
 rcases n3 with _|n3
 ·exact absurd (show none=some o3 from l3) nofun
 rw [zbN] at l3
 refine aw_seq (aw_seq (aw_region (s_mv ?_)))
 refine s_fd ?_
 refine s_ld ?_
 refine s_ln ?_
 refine s_cm (aops_nil ?_)
 refine aw_if l3 (fun c69 l3=>?_) (fun c69 l3=>?_)
 ·refine aw_skip (aw_seq (aw_block (aw_region ?_)))
  iterate 2 refine s_mv ?_
  obtain ⟨g70,l3⟩:=ifp_s l3
  refine zaa rfl (zbI rfl rfl rfl rfl g70 rfl) (zaa rfl (zhx (l:=s3_1) true (fun _=>rfl) rfl rfl g70 rfl rfl rfl rfl rfl) ?_)
  refine aops_nil (aw_region (s_mv ?_))
  obtain ⟨g71,l3⟩:=ifp_s l3
  refine zaa rfl (ev_add rfl rfl rfl (nat_add g71)) (s_sa (aops_nil ?_))
  exact ⟨⟨(n3,(s3_0+1),(s3_1.set s3_0 true)),l3⟩,Nat.lt_succ_self _,wk⟩
 refine aw_exit ?_
 show ∃_x:(List Bool),_=_∧Weak _ _
 exact ⟨s3_1,sj l3,wk⟩
end Md
end Go.Proofs.YtclffekkjfhpdaaGreat

