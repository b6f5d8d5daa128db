import Derived.Test.YtclffekkjfhpdaaGreatQAbsSw
import Derived.Test.YtclffekkjfhpdaaGreatQMo
import Derived.Test.YtclffekkjfhpdaaGreatQTy
import Derived.Test.YtclffekkjfhpdaaGreatQAbsS
import Derived.Test.YtclffekkjfhpdaaGreatQAbsF
import Derived.Test.YtclffekkjfhpdaaGreatQCodeA
namespace Go.Proofs.YtclffekkjfhpdaaGreat
open Go.ChangeShapes Go.WideShapes Go.RowKit
open Abs
set_option linter.unusedVariables false
set_option linter.unusedSimpArgs false
set_option maxRecDepth 10000
namespace Md
def c_Value (x:Value):List CV:=[cI x.Kind,cI x.N,.val (Sv x.S),CV.ls c_Int x.I,CV.ls c_Str x.L]
set_option maxHeartbeats 2000000 in
theorem zeQ {k:Nat} {a0:Value} {r:Bool} (h:zdF k a0=some r):FnC Tryz.prog 62 [.agg (c_Value a0)] [] (Det (vB r) []):=by
 unfold zdF at h
 refine fn_intro' 86 Tryz.func62 rfl rfl rfl (aw_seq (aw_region (zaa rfl (st_box 0 rfl rfl rfl rfl) (s_sa ?_))))
 refine aops_nil (aw_seq (aw_seq (aw_region (s_fd ?_))))
 refine s_ld ?_
 refine s_cm ?_
 refine s_mv ?_
 refine bo 4 ((decide (a0.Kind<0))||(decide (a0.Kind>5))) ?_
 refine aops_nil ?_
 refine aw_if h (fun c2 h=>?_) (fun c2 h=>?_)
 ·refine aw_seq (aw_region (s_sa (aops_nil ?_)))
  cases sj h
  exact aw_ret ⟨rfl,rv r1⟩
 refine aw_skip (aw_seq (aw_block (aw_seq (aw_region (s_fd ?_)))))
 refine s_ld ?_
 refine s_cm ?_
 refine s_mv ?_
 refine bo 4 ((a0.N != 0)&&(a0.Kind != 1)) ?_
 refine s_mv ?_
 refine aops_mid 9 (⟨86,[],[(1,.one (.ptr 0 0)),(31,vB (((a0.N != 0)&&(a0.Kind != 1))&&((a0.Kind != 2)||(a0.N != 1))))],[(0,some (.box (c_Value a0)))]⟩:ASt) ?_ ?_
 ·rcases bool_or (((a0.N != 0)&&(a0.Kind != 1))) with q4|q4
  ·skip
   refine y_fd q4 ?_
   refine y_ld q4 ?_
   refine y_cm q4 ?_
   refine y_mv q4 ?_
   refine aops_mid 4 (⟨86,[],[(1,.one (.ptr 0 0)),(22,vB ((a0.N != 0)&&(a0.Kind != 1))),(30,vB ((a0.Kind != 2)||(a0.N != 1)))],[(0,some (.box (c_Value a0)))]⟩:ASt) ?_ ?_
   ·rcases bool_or ((a0.Kind != 2)) with q5|q5
    ·skip
     iterate 3 refine np q5 ?_
     refine aops_yes rfl rfl rfl rfl q4 (zau rfl (by first|rfl|exact q5) rfl rfl) (aops_nil ?_)
     exact wq q5
    refine y_fd q5 ?_
    refine y_ld q5 ?_
    refine y_cm q5 ?_
    refine aops_yes rfl rfl rfl rfl q4 (zaz rfl (by first|rfl|exact q5) rfl rfl) (aops_nil ?_)
    exact wq q5
   refine s_py q4 (aops_nil ?_)
   exact wq q4
  iterate 4 refine np q4 ?_
  iterate 3 refine aops_und rfl rfl rfl rfl rfl ?_
  refine np q4 ?_
  refine s_pn q4 (aops_nil ?_)
  exact wq q4
 refine s_sa (aops_nil ?_)
 refine aw_if h (fun c6 h=>?_) (fun c6 h=>?_)
 ·refine aw_seq (aw_region (s_sa (aops_nil ?_)))
  cases sj h
  exact aw_ret ⟨rfl,rv r1⟩
 refine aw_seq (aw_seq (aw_region (s_fd ?_)))
 refine s_ld ?_
 refine zaa rfl (st_str_ne rfl rfl rfl) (s_mv ?_)
 refine bo 4 ((!(decide (a0.S=([]:List UInt8))))&&(a0.Kind != 3)) ?_
 refine s_sa (aops_nil ?_)
 refine aw_if h (fun c8 h=>?_) (fun c8 h=>?_)
 ·refine aw_skip (aw_yes rfl (c8) (aw_seq (aw_region (s_sa (aops_nil ?_)))))
  cases sj h
  exact aw_ret ⟨rfl,rv r1⟩
 refine aw_seq (aw_region (s_fd ?_))
 refine s_ld ?_
 refine s_ln ?_
 refine s_cm ?_
 refine s_mv ?_
 refine bo 4 ((decide (((a0.I.length:Nat):Int)>0))&&(a0.Kind != 4)) ?_
 refine s_sa (aops_nil ?_)
 refine aw_if h (fun c10 h=>?_) (fun c10 h=>?_)
 ·refine aw_skip (aw_yes rfl (c10) (aw_seq (aw_region (s_sa (aops_nil ?_)))))
  cases sj h
  exact aw_ret ⟨rfl,rv r1⟩
 refine aw_region (s_fd ?_)
 refine s_ld ?_
 refine s_ln ?_
 refine s_cm ?_
 refine s_mv ?_
 refine bo 4 ((decide (((a0.L.length:Nat):Int)>0))&&(a0.Kind != 5)) ?_
 refine s_sa (aops_nil ?_)
 refine aw_if h (fun c12 h=>?_) (fun c12 h=>?_)
 ·refine aw_seq (aw_region (s_sa (aops_nil ?_)))
  cases sj h
  exact aw_ret ⟨rfl,rv r1⟩
 refine aw_skip (aw_seq (aw_seq (aw_region (s_fd ?_))))
 refine s_ld ?_
 refine zaa rfl (zdg rfl rfl) (s_cm ?_)
 refine s_mv ?_
 refine bo 5 ((decide (((a0.S.length:Nat):Int)>64))||(decide (((a0.I.length:Nat):Int)>16))) ?_
 refine s_mv ?_
 refine bo 5 (((decide (((a0.S.length:Nat):Int)>64))||(decide (((a0.I.length:Nat):Int)>16)))||(decide (((a0.L.length:Nat):Int)>16))) ?_
 refine aops_nil ?_
 refine aw_if h (fun c15 h=>?_) (fun c15 h=>?_)
 ·refine aw_seq (aw_region (s_sa (aops_nil ?_)))
  cases sj h
  exact aw_ret ⟨rfl,rv r1⟩
 refine aw_skip (aw_seq (aw_seq (aw_region (s_fd ?_))))
 refine s_ld ?_
 refine s_ln ?_
 refine s_mv (aops_nil (aw_block ?_))
 obtain ⟨o16,ho16,h⟩:=bind_s h
 refine aw_loop_x (ι:={p:Nat×Nat // zcq k a0 p.1 p.2=some o16}) (fun p=>(⟨86,[],[(76,.one (CV.ls c_Str a0.L)),(77,vI ((a0.L.length:Nat):Int)),(78,vI ((p.1.2:Nat):Int))],[]⟩:ASt)) (fun p=>p.1.1) ⟨(k,0),ho16⟩ wk 1 (ε:=Unit) (fun x=>(⟨86,[],[],[]⟩:ASt)) (fun x=>Sum.inl x=o16) (fun _ _ w h=>aw_weak w h) ?_ ?_
 ·intro x16_0 hI16
  subst hI16
  replace h:=onS_l h
  refine aw_seq (aw_region (s_sa (aops_nil ?_)))
  cases sj h
  exact aw_ret ⟨rfl,rv r1⟩
 intro p16
 obtain ⟨⟨n16,s16_0⟩,l16⟩:=p16
 replace l16:zcq k a0 n16 s16_0=some o16:=l16
 rcases n16 with _|n16
 ·exact absurd (show none=some o16 from l16) nofun
 rw [zcq] at l16
 refine aw_seq (aw_region (s_cm (aops_nil (aw_seq ?_))))
 refine aw_if l16 (fun c17 l16=>?_) (fun c17 l16=>?_)
 ·refine aw_skip (aw_seq (aw_block (aw_seq (aw_region ?_))))
  obtain ⟨g18,l16⟩:=ifp_s l16
  refine zaa rfl (zaf rfl rfl rfl g18 rfl rfl) (zaa rfl (zas rfl rfl rfl) (s_sa ?_))
  refine aops_nil (aw_seq (aw_region (s_mv ?_)))
  refine zaa rfl (zdg rfl rfl) (s_cm (aops_nil ?_))
  refine aw_if l16 (fun c19 l16=>?_) (fun c19 l16=>?_)
  ·refine aw_seq (aw_region (s_sa (aops_nil ?_)))
   cases sj l16
   replace h:=onS_r h
   cases sj h
   exact aw_ret ⟨rfl,rv r1⟩
  refine aw_skip (aw_region ?_)
  obtain ⟨g20,l16⟩:=ifp_s l16
  refine zaa rfl (ev_add rfl rfl rfl (nat_add g20)) (s_mv (aops_nil ?_))
  exact ⟨⟨(n16,(s16_0+1)),l16⟩,Nat.lt_succ_self _,wk⟩
 refine aw_exit ?_
 show ∃_x:Unit,_=_∧Weak _ _
 exact ⟨(),sj l16,wk⟩
set_option maxHeartbeats 2000000 in
theorem zgk {k:Nat} {a0:Field} {r:Bool} (h:zcU k a0=some r):FnC Tryz.prog 75 [.agg (c_Field a0)] [] (Det (vB r) []):=by
 unfold zcU at h
 refine fn_intro' 21 Tryz.func75 rfl rfl rfl (aw_seq (aw_region (zaa rfl (st_box 0 rfl rfl rfl rfl) (s_sa ?_))))
 refine aops_nil (aw_seq (aw_region (s_fd ?_)))
 refine s_ld ?_
 obtain ⟨x1,hx1,h⟩:=bind_s h
 refine zaa rfl (ev_call_v (zeS hx1) rfl [] ai rfl rfl rfl (.inl rfl) rfl) (s_nt ?_)
 refine s_mv ?_
 refine bo 7 ((!x1)||(a0.Init.Kind != a0.Kind)) ?_
 refine s_mv ?_
 obtain ⟨o3,j3,h⟩:=bind_s h
 refine aops_cutE 5 o3 (fun x3=>(⟨21,[],[(2,vB false),(20,vB x3)],[]⟩:ASt)) ?_ ?_
 ·refine s_sa (aops_nil ?_)
  cases sj h
  exact aw_ret ⟨rfl,rv r1⟩
 rcases co j3 with ⟨q3,j3⟩|⟨q3,j3⟩
 ·iterate 4 refine np q3 ?_
  refine s_py q3 (aops_nil ?_)
  exact jx j3 wk
 refine y_fd q3 ?_
 refine aops_yes rfl rfl rfl rfl q3 (ev_loads (ds:=[_,_,_,_,_]) rfl rfl rfl rfl rfl) ?_
 obtain ⟨x4,hx4,j3⟩:=bind_s j3
 refine aops_yes rfl rfl rfl rfl q3 (ev_call_v (zeQ hx4) rfl [] ai rfl rfl rfl (.inl rfl) rfl) (y_nt q3 ?_)
 refine s_pn q3 (aops_nil ?_)
 exact jx j3 wk
set_option maxHeartbeats 2000000 in
theorem zcP {k:Nat} {a0:List Field} {r:Int} (h:zbc k a0=some r):FnC Tryz.prog 97 [.one (CV.ls c_Field a0),.one (.fn 75 [])] [] (Det (vI r) []):=by
 unfold zbc at h
 refine fn_intro' 19 Tryz.func97 rfl rfl rfl (aw_seq (aw_region (s_sa ?_)))
 refine aops_nil (aw_seq (aw_seq (aw_region (s_mv ?_))))
 refine s_ln ?_
 refine s_mv (aops_nil (aw_block ?_))
 obtain ⟨o1,ho1,h⟩:=bind_s h
 refine aw_loop_x (ι:={p:Nat×Nat // zav k a0 p.1 p.2=some o1}) (fun p=>(⟨19,[],[(0,.one (CV.ls c_Field a0)),(1,.one (.fn 75 [])),(7,vI ((a0.length:Nat):Int)),(8,vI ((p.1.2:Nat):Int))],[]⟩:ASt)) (fun p=>p.1.1) ⟨(k,0),ho1⟩ wk 0 (ε:=Unit) (fun x=>(⟨19,[],[],[]⟩:ASt)) (fun x=>Sum.inl x=o1) (fun _ _ w h=>aw_weak w h) ?_ ?_
 ·intro x1_0 hI1
  subst hI1
  replace h:=onS_l h
  refine aw_seq (aw_region (s_sa (aops_nil ?_)))
  cases sj h
  exact aw_ret ⟨rfl,rv r1⟩
 intro p1
 obtain ⟨⟨n1,s1_0⟩,l1⟩:=p1
 replace l1:zav k a0 n1 s1_0=some o1:=l1
 rcases n1 with _|n1
 ·exact absurd (show none=some o1 from l1) nofun
 rw [zav] at l1
 refine aw_seq (aw_region (s_cm (aops_nil (aw_seq ?_))))
 refine aw_if l1 (fun c2 l1=>?_) (fun c2 l1=>?_)
 ·refine aw_skip (aw_seq (aw_block (aw_seq (aw_region (s_mv ?_)))))
  refine s_sa (aops_nil (aw_seq (aw_region ?_)))
  iterate 3 refine s_mv ?_
  obtain ⟨g3,l1⟩:=ifp_s l1
  refine zaa rfl (zaf rfl rfl rfl g3 rfl rfl) (zaa rfl (zaI (ds:=[_,_,_,_,_,_,_]) rfl rfl rfl rfl) ?_)
  obtain ⟨x4,hx4,l1⟩:=bind_s l1
  refine zaa rfl (ev_callee rfl (ev_call_v (zgk hx4) rfl [] ai rfl rfl rfl (.inl rfl) rfl)) (aops_nil ?_)
  refine aw_if l1 (fun c5 l1=>?_) (fun c5 l1=>?_)
  ·refine aw_seq (aw_region (s_mv ?_))
   refine s_sa (aops_nil ?_)
   cases sj l1
   replace h:=onS_r h
   cases sj h
   exact aw_ret ⟨rfl,rv r1⟩
  refine aw_skip (aw_region ?_)
  obtain ⟨g6,l1⟩:=ifp_s l1
  refine zaa rfl (ev_add rfl rfl rfl (nat_add g6)) (s_mv (aops_nil ?_))
  exact ⟨⟨(n1,(s1_0+1)),l1⟩,Nat.lt_succ_self _,wk⟩
 refine aw_exit ?_
 show ∃_x:Unit,_=_∧Weak _ _
 exact ⟨(),sj l1,wk⟩
set_option maxHeartbeats 2000000 in
theorem zcG {k:Nat} {a0:List Field} {r:Bool} (h:zaG k a0=some r):FnC Tryz.prog 74 [.one (CV.ls c_Field a0),.one (.fn 75 [])] [] (Det (vB r) []):=by
 unfold zaG at h
 refine fn_intro' 9 Tryz.func74 rfl rfl rfl (aw_seq (aw_region (s_sa ?_)))
 refine aops_nil (aw_seq (aw_region ?_))
 iterate 2 refine s_mv ?_
 obtain ⟨x1,hx1,h⟩:=bind_s h
 refine zaa rfl (ev_call_v (zcP hx1) rfl [] ai rfl rfl rfl (.inl rfl) rfl) (s_cm ?_)
 refine s_sa (aops_nil ?_)
 cases sj h
 exact aw_ret ⟨rfl,rv r1⟩
set_option maxHeartbeats 2000000 in
theorem zdV {k:Nat} {a0:List Int} {a1:List Int} {r:Bool} (h:zdU k a0 a1=some r):FnC Tryz.prog 33 [.one (CV.ls c_Int a0),.one (CV.ls c_Int a1)] [] (Det (vB r) []):=by
 unfold zdU at h
 refine fn_intro' 26 Tryz.func33 rfl rfl rfl (aw_seq (aw_region (s_sa ?_)))
 refine aops_nil (aw_seq (aw_seq (aw_region (s_mv ?_))))
 refine s_ln ?_
 refine s_mv ?_
 refine s_ln ?_
 refine s_cm (aops_nil ?_)
 refine aw_if h (fun c1 h=>?_) (fun c1 h=>?_)
 ·refine aw_seq (aw_region (s_sa (aops_nil ?_)))
  cases sj h
  exact aw_ret ⟨rfl,rv r1⟩
 refine aw_skip (aw_seq (aw_seq (aw_region (s_mv ?_))))
 refine s_ln ?_
 refine s_mv (aops_nil (aw_block ?_))
 obtain ⟨o2,ho2,h⟩:=bind_s h
 refine aw_loop_x (ι:={p:Nat×Nat // zdc k a0 a1 p.1 p.2=some o2}) (fun p=>(⟨26,[],[(0,.one (CV.ls c_Int a0)),(1,.one (CV.ls c_Int a1)),(12,vI ((a0.length:Nat):Int)),(13,vI ((p.1.2:Nat):Int))],[]⟩:ASt)) (fun p=>p.1.1) ⟨(k,0),ho2⟩ wk 0 (ε:=Unit) (fun x=>(⟨26,[],[],[]⟩:ASt)) (fun x=>Sum.inl x=o2) (fun _ _ w h=>aw_weak w h) ?_ ?_
 ·intro x2_0 hI2
  subst hI2
  replace h:=onS_l h
  refine aw_seq (aw_region (s_sa (aops_nil ?_)))
  cases sj h
  exact aw_ret ⟨rfl,rv r1⟩
 intro p2
 obtain ⟨⟨n2,s2_0⟩,l2⟩:=p2
 replace l2:zdc k a0 a1 n2 s2_0=some o2:=l2
 rcases n2 with _|n2
 ·exact absurd (show none=some o2 from l2) nofun
 rw [zdc] at l2
 refine aw_seq (aw_region (s_cm (aops_nil (aw_seq ?_))))
 refine aw_if l2 (fun c3 l2=>?_) (fun c3 l2=>?_)
 ·refine aw_skip (aw_seq (aw_block (aw_seq (aw_region (s_mv ?_)))))
  refine s_sa (aops_nil ?_)
  obtain ⟨g4,l2⟩:=ifp_s l2
  obtain ⟨g5,l2⟩:=ifp_s l2
  refine aw_seq ?_
  apply aw_draw 8 [ad _,ad _,ad _,ad _,ad _,ad _,ad _,ad _] (by decide) rfl ?hk6x ?hf6x ?ho6x ?hr6x
  case ho6x =>
   refine o_mv 0 ?_
   refine o_mv 0 ?_
   refine obn 3 (fun S hle hfr=>.inl ⟨w0,zaf (hle.e rfl) (hle.e rfl) rfl g4 rfl (hle.d rfl)⟩) ?_
   refine o_li 7 ?_
   refine o_mv 0 ?_
   refine o_mv 0 ?_
   refine obn 48 (fun S hle hfr=>.inl ⟨w0,zaf (hle.e rfl) (hle.e rfl) rfl g5 rfl (hle.d rfl)⟩) ?_
   refine o_li 112 ?_
   exact trivial
  case hk6x=>rfl
  case hf6x=>rfl
  refine s_cm (aops_nil ?_)
  refine aw_if l2 (fun c6 l2=>?_) (fun c6 l2=>?_)
  ·refine aw_seq (aw_region (s_sa (aops_nil ?_)))
   cases sj l2
   replace h:=onS_r h
   cases sj h
   exact aw_ret ⟨rfl,rv r1⟩
  refine aw_skip (aw_region ?_)
  obtain ⟨g7,l2⟩:=ifp_s l2
  refine zaa rfl (ev_add rfl rfl rfl (nat_add g7)) (s_mv (aops_nil ?_))
  exact ⟨⟨(n2,(s2_0+1)),l2⟩,Nat.lt_succ_self _,wk⟩
 refine aw_exit ?_
 show ∃_x:Unit,_=_∧Weak _ _
 exact ⟨(),sj l2,wk⟩
set_option maxHeartbeats 2000000 in
theorem zhn {k:Nat} {a0:Int} {r:Bool} (h:zfg k a0=some r):FnC Tryz.prog 101 [vI a0] [] (Det (vB r) []):=by
 unfold zfg at h
 refine fn_intro' 25 Tryz.func101 rfl rfl rfl (aw_seq (aw_region (s_sa ?_)))
 refine aops_nil (aw_seq (aw_region (s_mv ?_)))
 refine s_cm ?_
 refine s_mv ?_
 refine bo 3 ((decide (a0≥2))&&(decide (a0≤5))) ?_
 refine s_mv ?_
 refine bo 3 (((decide (a0≥2))&&(decide (a0≤5)))||(a0==26)) ?_
 refine s_mv ?_
 refine bo 3 ((((decide (a0≥2))&&(decide (a0≤5)))||(a0==26))||(a0==27)) ?_
 refine s_mv ?_
 refine aops_mid 7 (⟨25,[],[(2,vB false),(24,vB (((((decide (a0≥2))&&(decide (a0≤5)))||(a0==26))||(a0==27))||((decide (a0≥28))&&(decide (a0≤30)))))],[]⟩:ASt) ?_ ?_
 ·rcases bool_or (((((decide (a0≥2))&&(decide (a0≤5)))||(a0==26))||(a0==27))) with q4|q4
  ·skip
   iterate 3 refine np q4 ?_
   refine aops_und rfl rfl rfl rfl rfl (aops_und rfl rfl rfl rfl rfl (np q4 ?_))
   refine s_py q4 (aops_nil ?_)
   exact wq q4
  refine y_mv q4 ?_
  refine y_cm q4 ?_
  refine y_mv q4 ?_
  refine aops_mid 3 (⟨25,[],[(2,vB false),(17,vB ((((decide (a0≥2))&&(decide (a0≤5)))||(a0==26))||(a0==27))),(23,vB ((decide (a0≥28))&&(decide (a0≤30))))],[]⟩:ASt) ?_ ?_
  ·rcases bool_or ((decide (a0≥28))) with q5|q5
   ·skip
    refine y_mv q5 ?_
    refine y_cm q5 ?_
    refine aops_yes rfl rfl rfl rfl q4 (zau rfl (by first|rfl|exact q5) rfl rfl) (aops_nil ?_)
    exact wq q5
   iterate 2 refine np q5 ?_
   refine aops_yes rfl rfl rfl rfl q4 (zaz rfl (by first|rfl|exact q5) rfl rfl) (aops_nil ?_)
   exact wq q5
  refine s_pn q4 (aops_nil ?_)
  exact wq q4
 refine s_sa (aops_nil ?_)
 cases sj h
 exact aw_ret ⟨rfl,rv r1⟩
set_option maxHeartbeats 2000000 in
theorem zhv {k:Nat} {a0:List Int} {a1:List Int} {r:Bool} (h:zew k a0 a1=some r):FnC Tryz.prog 69 [.one (CV.ls c_Int a0),.one (CV.ls c_Int a1)] [] (Det (vB r) []):=by
 unfold zew at h
 refine fn_intro' 26 Tryz.func69 rfl rfl rfl (aw_seq (aw_region (s_sa ?_)))
 refine aops_nil (aw_seq (aw_seq (aw_region (s_mv ?_))))
 refine s_ln ?_
 refine s_mv ?_
 refine s_ln ?_
 refine s_cm (aops_nil ?_)
 refine aw_if h (fun c1 h=>?_) (fun c1 h=>?_)
 ·refine aw_seq (aw_region (s_sa (aops_nil ?_)))
  cases sj h
  exact aw_ret ⟨rfl,rv r1⟩
 refine aw_skip (aw_seq (aw_seq (aw_region (s_mv ?_))))
 refine s_ln ?_
 refine s_mv (aops_nil (aw_block ?_))
 obtain ⟨o2,ho2,h⟩:=bind_s h
 refine aw_loop_x (ι:={p:Nat×Nat // zcb k a0 a1 p.1 p.2=some o2}) (fun p=>(⟨26,[],[(0,.one (CV.ls c_Int a0)),(1,.one (CV.ls c_Int a1)),(12,vI ((a0.length:Nat):Int)),(13,vI ((p.1.2:Nat):Int))],[]⟩:ASt)) (fun p=>p.1.1) ⟨(k,0),ho2⟩ wk 0 (ε:=Unit) (fun x=>(⟨26,[],[],[]⟩:ASt)) (fun x=>Sum.inl x=o2) (fun _ _ w h=>aw_weak w h) ?_ ?_
 ·intro x2_0 hI2
  subst hI2
  replace h:=onS_l h
  refine aw_seq (aw_region (s_sa (aops_nil ?_)))
  cases sj h
  exact aw_ret ⟨rfl,rv r1⟩
 intro p2
 obtain ⟨⟨n2,s2_0⟩,l2⟩:=p2
 replace l2:zcb k a0 a1 n2 s2_0=some o2:=l2
 rcases n2 with _|n2
 ·exact absurd (show none=some o2 from l2) nofun
 rw [zcb] at l2
 refine aw_seq (aw_region (s_cm (aops_nil (aw_seq ?_))))
 refine aw_if l2 (fun c3 l2=>?_) (fun c3 l2=>?_)
 ·refine aw_skip (aw_seq (aw_block (aw_seq (aw_region (s_mv ?_)))))
  refine s_sa (aops_nil ?_)
  obtain ⟨g4,l2⟩:=ifp_s l2
  obtain ⟨g5,l2⟩:=ifp_s l2
  refine aw_seq ?_
  apply aw_draw 8 [ad _,ad _,ad _,ad _,ad _,ad _,ad _,ad _] (by decide) rfl ?hk6x ?hf6x ?ho6x ?hr6x
  case ho6x =>
   refine o_mv 0 ?_
   refine o_mv 0 ?_
   refine obn 3 (fun S hle hfr=>.inl ⟨w0,zaf (hle.e rfl) (hle.e rfl) rfl g4 rfl (hle.d rfl)⟩) ?_
   refine o_li 7 ?_
   refine o_mv 0 ?_
   refine o_mv 0 ?_
   refine obn 48 (fun S hle hfr=>.inl ⟨w0,zaf (hle.e rfl) (hle.e rfl) rfl g5 rfl (hle.d rfl)⟩) ?_
   refine o_li 112 ?_
   exact trivial
  case hk6x=>rfl
  case hf6x=>rfl
  refine s_cm (aops_nil ?_)
  refine aw_if l2 (fun c6 l2=>?_) (fun c6 l2=>?_)
  ·refine aw_seq (aw_region (s_sa (aops_nil ?_)))
   cases sj l2
   replace h:=onS_r h
   cases sj h
   exact aw_ret ⟨rfl,rv r1⟩
  refine aw_skip (aw_region ?_)
  obtain ⟨g7,l2⟩:=ifp_s l2
  refine zaa rfl (ev_add rfl rfl rfl (nat_add g7)) (s_mv (aops_nil ?_))
  exact ⟨⟨(n2,(s2_0+1)),l2⟩,Nat.lt_succ_self _,wk⟩
 refine aw_exit ?_
 show ∃_x:Unit,_=_∧Weak _ _
 exact ⟨(),sj l2,wk⟩
set_option maxHeartbeats 2000000 in
theorem zgQ {k:Nat} {a0:List (List UInt8)} {a1:List (List UInt8)} {r:Bool} (h:zeg k a0 a1=some r):FnC Tryz.prog 70 [.one (CV.ls c_Str a0),.one (CV.ls c_Str a1)] [] (Det (vB r) []):=by
 unfold zeg at h
 refine fn_intro' 26 Tryz.func70 rfl rfl rfl (aw_seq (aw_region (s_sa ?_)))
 refine aops_nil (aw_seq (aw_seq (aw_region (s_mv ?_))))
 refine s_ln ?_
 refine s_mv ?_
 refine s_ln ?_
 refine s_cm (aops_nil ?_)
 refine aw_if h (fun c1 h=>?_) (fun c1 h=>?_)
 ·refine aw_seq (aw_region (s_sa (aops_nil ?_)))
  cases sj h
  exact aw_ret ⟨rfl,rv r1⟩
 refine aw_skip (aw_seq (aw_seq (aw_region (s_mv ?_))))
 refine s_ln ?_
 refine s_mv (aops_nil (aw_block ?_))
 obtain ⟨o2,ho2,h⟩:=bind_s h
 refine aw_loop_x (ι:={p:Nat×Nat // zci k a0 a1 p.1 p.2=some o2}) (fun p=>(⟨26,[],[(0,.one (CV.ls c_Str a0)),(1,.one (CV.ls c_Str a1)),(12,vI ((a0.length:Nat):Int)),(13,vI ((p.1.2:Nat):Int))],[]⟩:ASt)) (fun p=>p.1.1) ⟨(k,0),ho2⟩ wk 0 (ε:=Unit) (fun x=>(⟨26,[],[],[]⟩:ASt)) (fun x=>Sum.inl x=o2) (fun _ _ w h=>aw_weak w h) ?_ ?_
 ·intro x2_0 hI2
  subst hI2
  replace h:=onS_l h
  refine aw_seq (aw_region (s_sa (aops_nil ?_)))
  cases sj h
  exact aw_ret ⟨rfl,rv r1⟩
 intro p2
 obtain ⟨⟨n2,s2_0⟩,l2⟩:=p2
 replace l2:zci k a0 a1 n2 s2_0=some o2:=l2
 rcases n2 with _|n2
 ·exact absurd (show none=some o2 from l2) nofun
 rw [zci] at l2
 refine aw_seq (aw_region (s_cm (aops_nil (aw_seq ?_))))
 refine aw_if l2 (fun c3 l2=>?_) (fun c3 l2=>?_)
 ·refine aw_skip (aw_seq (aw_block (aw_seq (aw_region (s_mv ?_)))))
  refine s_sa (aops_nil ?_)
  obtain ⟨g4,l2⟩:=ifp_s l2
  obtain ⟨g5,l2⟩:=ifp_s l2
  refine aw_seq ?_
  apply aw_draw 8 [ad _,ad _,ad _,ad _,ad _,ad _,ad _,ad _] (by decide) rfl ?hk6x ?hf6x ?ho6x ?hr6x
  case ho6x =>
   refine o_mv 0 ?_
   refine o_mv 0 ?_
   refine obn 3 (fun S hle hfr=>.inl ⟨w0,zaf (hle.e rfl) (hle.e rfl) rfl g4 rfl (hle.d rfl)⟩) ?_
   refine o_li 7 ?_
   refine o_mv 0 ?_
   refine o_mv 0 ?_
   refine obn 48 (fun S hle hfr=>.inl ⟨w0,zaf (hle.e rfl) (hle.e rfl) rfl g5 rfl (hle.d rfl)⟩) ?_
   refine o_li 112 ?_
   exact trivial
  case hk6x=>rfl
  case hf6x=>rfl
  refine zaa rfl (st_str_ne rfl rfl rfl) (aops_nil ?_)
  refine aw_if l2 (fun c6 l2=>?_) (fun c6 l2=>?_)
  ·refine aw_seq (aw_region (s_sa (aops_nil ?_)))
   cases sj l2
   replace h:=onS_r h
   cases sj h
   exact aw_ret ⟨rfl,rv r1⟩
  refine aw_skip (aw_region ?_)
  obtain ⟨g7,l2⟩:=ifp_s l2
  refine zaa rfl (ev_add rfl rfl rfl (nat_add g7)) (s_mv (aops_nil ?_))
  exact ⟨⟨(n2,(s2_0+1)),l2⟩,Nat.lt_succ_self _,wk⟩
 refine aw_exit ?_
 show ∃_x:Unit,_=_∧Weak _ _
 exact ⟨(),sj l2,wk⟩
set_option maxHeartbeats 2000000 in
theorem zfc {k:Nat} {a0:Value} {a1:Value} {r:Bool} (h:zdT k a0 a1=some r):FnC Tryz.prog 30 [.agg (c_Value a0),.agg (c_Value a1)] [] (Det (vB r) []):=by
 unfold zdT at h
 refine fn_intro' 38 Tryz.func30 rfl rfl rfl (aw_seq (aw_region (zaa rfl (st_box 0 rfl rfl rfl rfl) (zaa rfl (st_box 1 rfl rfl rfl rfl) (s_sa ?_)))))
 refine aops_nil (aw_seq (aw_region (s_fd ?_)))
 refine s_ld ?_
 refine s_fd ?_
 refine s_ld ?_
 refine s_cm ?_
 refine s_mv ?_
 refine bo 6 ((a0.Kind==a1.Kind)&&(a0.N==a1.N)) ?_
 refine s_mv ?_
 refine aops_mid 6 (⟨38,[],[(2,.one (.ptr 0 0)),(3,.one (.ptr 1 0)),(4,vB false),(23,vB (((a0.Kind==a1.Kind)&&(a0.N==a1.N))&&(decide (a0.S=a1.S))))],[(0,some (.box (c_Value a0))),(1,some (.box (c_Value a1)))]⟩:ASt) ?_ ?_
 ·rcases bool_or (((a0.Kind==a1.Kind)&&(a0.N==a1.N))) with q2|q2
  ·skip
   refine y_fd q2 ?_
   refine y_ld q2 ?_
   refine y_fd q2 ?_
   refine y_ld q2 ?_
   refine aops_yes rfl rfl rfl rfl q2 (st_str_eq rfl rfl rfl) (s_py q2 (aops_nil ?_))
   exact wq q2
  iterate 5 refine np q2 ?_
  refine s_pn q2 (aops_nil ?_)
  exact wq q2
 refine s_mv ?_
 obtain ⟨o3,j3,h⟩:=bind_s h
 refine aops_cutE 6 o3 (fun x3=>(⟨38,[],[(2,.one (.ptr 0 0)),(3,.one (.ptr 1 0)),(4,vB false),(30,vB x3)],[(0,some (.box (c_Value a0))),(1,some (.box (c_Value a1)))]⟩:ASt)) ?_ ?_
 ·refine s_mv ?_
  obtain ⟨o4,j4,h⟩:=bind_s h
  refine aops_cutE 6 o4 (fun x4=>(⟨38,[],[(4,vB false),(37,vB x4)],[]⟩:ASt)) ?_ ?_
  ·refine s_sa (aops_nil ?_)
   cases sj h
   exact aw_ret ⟨rfl,rv r1⟩
  rcases co j4 with ⟨q4,j4⟩|⟨q4,j4⟩
  ·refine y_fd q4 ?_
   refine y_ld q4 ?_
   refine y_fd q4 ?_
   refine y_ld q4 ?_
   obtain ⟨x5,hx5,j4⟩:=bind_s j4
   refine aops_yes rfl rfl rfl rfl q4 (ev_call_v (zgQ hx5) rfl [] ai rfl rfl rfl (.inl rfl) rfl) (s_py q4 (aops_nil ?_))
   exact jx j4 wk
  iterate 5 refine np q4 ?_
  refine s_pn q4 (aops_nil ?_)
  exact jx j4 wk
 rcases co j3 with ⟨q3,j3⟩|⟨q3,j3⟩
 ·refine y_fd q3 ?_
  refine y_ld q3 ?_
  refine y_fd q3 ?_
  refine y_ld q3 ?_
  obtain ⟨x6,hx6,j3⟩:=bind_s j3
  refine aops_yes rfl rfl rfl rfl q3 (ev_call_v (zhv hx6) rfl [] ai rfl rfl rfl (.inl rfl) rfl) (s_py q3 (aops_nil ?_))
  exact jx j3 wk
 iterate 5 refine np q3 ?_
 refine s_pn q3 (aops_nil ?_)
 exact jx j3 wk
set_option maxHeartbeats 2000000 in
theorem zbk {k:Nat} {a0:Int} {a1:Int} {r:Bool} (h:zbo k a0 a1=some r):FnC Tryz.prog 102 [vI a0,vI a1] [] (Det (vB r) []):=by
 unfold zbo at h
 refine fn_intro' 12 Tryz.func102 rfl rfl rfl (aw_seq (aw_region (s_sa ?_)))
 refine aops_nil (aw_seq (aw_region (s_mv ?_)))
 refine s_cm ?_
 refine s_mv ?_
 refine bo 4 ((decide (a0≥0))&&(decide (a0<a1))) ?_
 refine s_sa (aops_nil ?_)
 cases sj h
 exact aw_ret ⟨rfl,rv r1⟩
set_option maxHeartbeats 2000000 in
theorem zgq {k:Nat} {a0:Code} {a1:CodeType} {a2:CodeMethod} {a3:Instr} {r:Bool} (h:zdz k a0 a1 a2 a3=some r):FnC Tryz.prog 80 [.agg [CV.ls zab a0.Types],.agg (zab a1),.agg (zad a2),.agg (c_Instr a3)] [] (Det (vB r) []):=by
 unfold zdz at h
 refine fn_intro' 122 Tryz.func80 rfl rfl rfl (aw_seq (aw_region (zaa rfl (st_box 0 rfl rfl rfl rfl) (zaa rfl (st_box 1 rfl rfl rfl rfl) ?_))))
 refine zaa rfl (st_box 2 rfl rfl rfl rfl) (zaa rfl (st_box 3 rfl rfl rfl rfl) (s_sa ?_))
 refine aops_nil (aw_seq (aw_seq (aw_region (s_fd ?_))))
 refine s_ld ?_
 refine s_cm ?_
 refine s_mv ?_
 refine bo 4 ((decide (a3.Op<1))||(decide (a3.Op>36))) ?_
 refine s_mv ?_
 obtain ⟨o2,j2,h⟩:=bind_s h
 refine aops_cutE 10 o2 (fun x2=>(⟨122,[],[(4,.one (.ptr 0 0)),(5,.one (.ptr 1 0)),(6,.one (.ptr 2 0)),(7,.one (.ptr 3 0)),(28,vB x2)],[(0,some (.box [CV.ls zab a0.Types])),(1,some (.box (zab a1))),(2,some (.box (zad a2))),(3,some (.box (c_Instr a3)))]⟩:ASt)) ?_ ?_
 ·refine s_mv ?_
  refine aops_mid 9 (⟨122,[],[(4,.one (.ptr 0 0)),(5,.one (.ptr 1 0)),(6,.one (.ptr 2 0)),(7,.one (.ptr 3 0)),(38,vB (o2||((a3.Op != 30)&&(a3.B != 0))))],[(0,some (.box [CV.ls zab a0.Types])),(1,some (.box (zab a1))),(2,some (.box (zad a2))),(3,some (.box (c_Instr a3)))]⟩:ASt) ?_ ?_
  ·rcases bool_or (o2) with q3|q3
   ·skip
    iterate 4 refine np q3 ?_
    iterate 3 refine aops_und rfl rfl rfl rfl rfl ?_
    refine np q3 ?_
    refine s_py q3 (aops_nil ?_)
    exact wq q3
   refine y_fd q3 ?_
   refine y_ld q3 ?_
   refine y_cm q3 ?_
   refine y_mv q3 ?_
   refine aops_mid 4 (⟨122,[],[(4,.one (.ptr 0 0)),(5,.one (.ptr 1 0)),(6,.one (.ptr 2 0)),(7,.one (.ptr 3 0)),(29,vB o2),(37,vB ((a3.Op != 30)&&(a3.B != 0)))],[(0,some (.box [CV.ls zab a0.Types])),(1,some (.box (zab a1))),(2,some (.box (zad a2))),(3,some (.box (c_Instr a3)))]⟩:ASt) ?_ ?_
   ·rcases bool_or ((a3.Op != 30)) with q4|q4
    ·skip
     refine y_fd q4 ?_
     refine y_ld q4 ?_
     refine y_cm q4 ?_
     refine aops_yes rfl rfl rfl rfl q3 (zau rfl (by first|rfl|exact q4) rfl rfl) (aops_nil ?_)
     exact wq q4
    iterate 3 refine np q4 ?_
    refine aops_yes rfl rfl rfl rfl q3 (zaz rfl (by first|rfl|exact q4) rfl rfl) (aops_nil ?_)
    exact wq q4
   refine s_pn q3 (aops_nil ?_)
   exact wq q3
  refine aops_nil ?_
  refine aw_if h (fun c5 h=>?_) (fun c5 h=>?_)
  ·refine aw_seq (aw_region (s_sa (aops_nil ?_)))
   cases sj h
   exact aw_ret ⟨rfl,rv r1⟩
  refine aw_skip (aw_seq (aw_seq (aw_region (s_fd ?_))))
  refine s_ld ?_
  refine s_cm ?_
  refine s_mv ?_
  obtain ⟨o6,j6,h⟩:=bind_s h
  refine aops_cutE 6 o6 (fun x6=>(⟨122,[],[(4,.one (.ptr 0 0)),(5,.one (.ptr 1 0)),(6,.one (.ptr 2 0)),(7,.one (.ptr 3 0)),(48,vB x6)],[(0,some (.box [CV.ls zab a0.Types])),(1,some (.box (zab a1))),(2,some (.box (zad a2))),(3,some (.box (c_Instr a3)))]⟩:ASt)) ?_ ?_
  ·refine aops_nil ?_
   refine aw_if h (fun c7 h=>?_) (fun c7 h=>?_)
   ·refine aw_seq (aw_region (s_sa (aops_nil ?_)))
    cases sj h
    exact aw_ret ⟨rfl,rv r1⟩
   refine aw_skip (aw_seq (aw_region (s_sa ?_)))
   refine aops_nil (aw_seq (aw_seq (aw_region (s_fd ?_))))
   refine s_ld ?_
   refine aops_nil (aw_block (aw_seq (aw_region (s_cm ?_))))
   refine s_sa (aops_nil ?_)
   refine aw_if h (fun c8 h=>?_) (fun c8 h=>?_)
   ·refine aw_seq (aw_region (s_fd ?_))
    refine s_ls [_,_,_,_,_] ?_
    obtain ⟨x9,hx9,h⟩:=bind_s h
    refine zaa rfl (ev_call_v (zeQ hx9) rfl [] ai rfl rfl rfl (.inl rfl) rfl) (s_mv ?_)
    refine bo 5 (x9&&(a3.Value.Kind != 0)) ?_
    refine s_sa (aops_nil ?_)
    cases sj h
    exact aw_ret ⟨rfl,rv r1⟩
   refine aw_seq (aw_seq (aw_region (s_cm ?_)))
   refine s_sa (aops_nil ?_)
   refine aw_if h (fun c11 h=>?_) (fun c11 h=>?_)
   ·refine aw_skip (aw_yes rfl (c11) (aw_seq (aw_region (s_mv ?_))))
    refine s_fd ?_
    refine s_ld ?_
    refine s_fd ?_
    refine s_ld ?_
    refine s_ln ?_
    obtain ⟨x12,hx12,h⟩:=bind_s h
    refine zaa rfl (ev_callee rfl (ev_call_v (zbk hx12) rfl [] ai rfl rfl rfl (.inl rfl) rfl)) (s_sa (aops_nil ?_))
    cases sj h
    exact aw_ret ⟨rfl,rv r1⟩
   refine aw_region (s_cm ?_)
   refine s_sa (aops_nil ?_)
   refine aw_if h (fun c13 h=>?_) (fun c13 h=>?_)
   ·refine aw_seq (aw_region (s_mv ?_))
    refine s_fd ?_
    refine s_ld ?_
    refine s_fd ?_
    refine s_ld ?_
    refine s_ln ?_
    obtain ⟨x14,hx14,h⟩:=bind_s h
    refine zaa rfl (ev_callee rfl (ev_call_v (zbk hx14) rfl [] ai rfl rfl rfl (.inl rfl) rfl)) (s_sa (aops_nil ?_))
    cases sj h
    exact aw_ret ⟨rfl,rv r1⟩
   refine aw_seq (aw_seq (aw_region (s_cm ?_)))
   refine s_sa (aops_nil ?_)
   refine aw_if h (fun c15 h=>?_) (fun c15 h=>?_)
   ·refine aw_skip (aw_yes rfl (c15) (aw_seq (aw_region (s_mv ?_))))
    refine s_fd ?_
    refine s_ld ?_
    refine s_fd ?_
    refine s_ld ?_
    refine s_ln ?_
    obtain ⟨x16,hx16,h⟩:=bind_s h
    refine zaa rfl (ev_callee rfl (ev_call_v (zbk hx16) rfl [] ai rfl rfl rfl (.inl rfl) rfl)) (s_sa (aops_nil ?_))
    cases sj h
    exact aw_ret ⟨rfl,rv r1⟩
   refine aw_region (s_cm ?_)
   refine s_sa (aops_nil ?_)
   refine aw_if h (fun c17 h=>?_) (fun c17 h=>?_)
   ·refine aw_seq (aw_region (s_mv ?_))
    refine s_fd ?_
    refine s_ld ?_
    refine s_fd ?_
    refine s_ld ?_
    refine s_ln ?_
    obtain ⟨x18,hx18,h⟩:=bind_s h
    refine zaa rfl (ev_callee rfl (ev_call_v (zbk hx18) rfl [] ai rfl rfl rfl (.inl rfl) rfl)) (s_sa (aops_nil ?_))
    cases sj h
    exact aw_ret ⟨rfl,rv r1⟩
   refine aw_seq (aw_seq (aw_region (s_cm ?_)))
   refine s_sa (aops_nil ?_)
   refine aw_if h (fun c19 h=>?_) (fun c19 h=>?_)
   ·refine aw_skip (aw_yes rfl (c19) (aw_seq (aw_region (s_mv ?_))))
    refine s_fd ?_
    refine s_ld ?_
    obtain ⟨x20,hx20,h⟩:=bind_s h
    refine zaa rfl (ev_callee rfl (ev_call_v (zbk hx20) rfl [] ai rfl rfl rfl (.inl rfl) rfl)) (s_sa (aops_nil ?_))
    cases sj h
    exact aw_ret ⟨rfl,rv r1⟩
   refine aw_region (s_cm ?_)
   refine s_sa (aops_nil ?_)
   refine aw_if h (fun c21 h=>?_) (fun c21 h=>?_)
   ·refine aw_seq (aw_region (s_mv ?_))
    refine s_fd ?_
    refine s_ld ?_
    obtain ⟨x22,hx22,h⟩:=bind_s h
    refine zaa rfl (ev_callee rfl (ev_call_v (zbk hx22) rfl [] ai rfl rfl rfl (.inl rfl) rfl)) (s_sa (aops_nil ?_))
    cases sj h
    exact aw_ret ⟨rfl,rv r1⟩
   refine aw_seq (aw_seq (aw_region (s_cm ?_)))
   refine s_sa (aops_nil ?_)
   refine aw_if h (fun c23 h=>?_) (fun c23 h=>?_)
   ·refine aw_skip (aw_yes rfl (c23) (aw_seq (aw_region (s_mv ?_))))
    refine s_fd ?_
    refine s_ld ?_
    refine s_fd ?_
    refine s_ld ?_
    refine s_ln ?_
    obtain ⟨x24,hx24,h⟩:=bind_s h
    refine zaa rfl (ev_callee rfl (ev_call_v (zbk hx24) rfl [] ai rfl rfl rfl (.inl rfl) rfl)) (s_sa (aops_nil ?_))
    cases sj h
    exact aw_ret ⟨rfl,rv r1⟩
   refine aw_region (s_cm ?_)
   refine s_sa (aops_nil ?_)
   refine aw_if h (fun c25 h=>?_) (fun c25 h=>?_)
   ·refine aw_seq (aw_region (s_mv ?_))
    refine s_fd ?_
    refine s_ld ?_
    refine s_fd ?_
    refine s_ld ?_
    refine s_ln ?_
    obtain ⟨x26,hx26,h⟩:=bind_s h
    refine zaa rfl (ev_callee rfl (ev_call_v (zbk hx26) rfl [] ai rfl rfl rfl (.inl rfl) rfl)) (s_sa (aops_nil ?_))
    cases sj h
    exact aw_ret ⟨rfl,rv r1⟩
   refine aw_seq (aw_region (s_cm ?_))
   refine s_sa (aops_nil ?_)
   refine aw_if h (fun c27 h=>?_) (fun c27 h=>?_)
   ·obtain ⟨x28,hx28,h⟩:=bind_s h
    rcases co h with ⟨q29,h⟩|⟨q29,h⟩
    ·obtain ⟨g30,h⟩:=ifp_s h
     obtain ⟨x31,hx31,h⟩:=bind_s h
     refine aw_seq ?_
     apply aw_draw 19 [ad _,ad _,ad _,ad _,ad _,ad _,ad _,ad _,ad _,ad _,ad _,ad _,ad _,ad _,ad _,ad _,ad _,ad _,ad _] (by decide) rfl ?hk1x ?hf1x ?ho1x ?hr1x
     case ho1x =>
      refine o_mv 0 ?_
      refine o_fd 0 ?_
      refine o_ld 2 ?_
      refine o_fd 0 ?_
      refine o_ld 8 ?_
      refine o_ln 24 ?_
      refine obn 63 (fun S hle hfr=>.inl ⟨w0,ev_callee (hle.e rfl) (ev_call_v (zbk hx28) (map_ev (.cons (hle.e rfl) (.cons (hle.e rfl) (.nil)))) [] (by repeat' (first|exact .nil|refine .cons ?_ ?_|refine .one ?_|refine .agg ?_|exact .mk rfl|exact .lend (hle.heap _ _ rfl) (by simp)|exact .le (.nil _) rfl|exact .le (.emp _) rfl|exact .le (.any _) rfl|fail)) rfl rfl rfl (.inl rfl) (hle.d rfl))⟩) ?_
      refine o_mv 127 ?_
      refine p_mv 255 q29 ?_
      refine p_fd 255 q29 ?_
      refine p_ld 767 q29 ?_
      refine p_fd 255 q29 ?_
      refine p_ld 2303 q29 ?_
      refine p_fd 255 q29 ?_
      refine p_ld 8447 q29 ?_
      refine obn 30975 (fun S hle hfr=>.inl ⟨wy hle q29,zaf (hle.e rfl) (hle.e rfl) (idx_eq g30) (idx_lt g30) rfl (hle.d rfl)⟩) ?_
      refine p_fi 63743 q29 ?_
      refine p_li 129279 q29 ?_
      refine p_ln 260351 q29 ?_
      exact trivial
     case hk1x=>rfl
     case hf1x=>rfl
     refine aops_yes rfl rfl rfl rfl q29 (ev_callee rfl (ev_call_v (zbk hx31) rfl [] ai rfl rfl rfl (.inl rfl) rfl)) (s_py q29 ?_)
     refine s_sa (aops_nil ?_)
     cases sj h
     exact aw_ret ⟨rfl,rv r1⟩
    refine aw_seq ?_
    apply aw_draw 19 [ad _,ad _,ad _,ad _,ad _,ad _,ad _,ad _,ad _,ad _,ad _,ad _,ad _,ad _,ad _,ad _,ad _,ad _,ad _] (by decide) rfl ?hk2x ?hf2x ?ho2x ?hr2x
    case ho2x =>
     refine o_mv 0 ?_
     refine o_fd 0 ?_
     refine o_ld 2 ?_
     refine o_fd 0 ?_
     refine o_ld 8 ?_
     refine o_ln 24 ?_
     refine obn 63 (fun S hle hfr=>.inl ⟨w0,ev_callee (hle.e rfl) (ev_call_v (zbk hx28) (map_ev (.cons (hle.e rfl) (.cons (hle.e rfl) (.nil)))) [] (by repeat' (first|exact .nil|refine .cons ?_ ?_|refine .one ?_|refine .agg ?_|exact .mk rfl|exact .lend (hle.heap _ _ rfl) (by simp)|exact .le (.nil _) rfl|exact .le (.emp _) rfl|exact .le (.any _) rfl|fail)) rfl rfl rfl (.inl rfl) (hle.d rfl))⟩) ?_
     refine o_mv 127 ?_
     refine on 255 q29 ?_
     refine on 255 q29 ?_
     refine on 767 q29 ?_
     refine on 255 q29 ?_
     refine on 2303 q29 ?_
     refine on 255 q29 ?_
     refine on 8447 q29 ?_
     refine on 30975 q29 ?_
     refine on 63743 q29 ?_
     refine on 129279 q29 ?_
     refine on 260351 q29 ?_
     exact trivial
    case hk2x=>rfl
    case hf2x=>rfl
    refine np q29 ?_
    refine s_pn q29 ?_
    refine s_sa (aops_nil ?_)
    cases sj h
    exact aw_ret ⟨rfl,rv r1⟩
   refine aw_skip (aw_seq (aw_region (s_sa (aops_nil ?_))))
   cases sj h
   exact aw_ret ⟨rfl,rv r1⟩
  rcases co j6 with ⟨q6,j6⟩|⟨q6,j6⟩
  ·refine y_fd q6 ?_
   refine aops_yes rfl rfl rfl rfl q6 (ev_loads (ds:=[_,_,_,_,_]) rfl rfl rfl rfl rfl) ?_
   refine aops_yes rfl rfl rfl rfl q6 (ev_build' (out:=[_,_,_,_,_]) rfl rfl rfl rfl rfl) ?_
   obtain ⟨x32,hx32,j6⟩:=bind_s j6
   refine aops_yes rfl rfl rfl rfl q6 (ev_call_v (zfc hx32) rfl [] ai rfl rfl rfl (.inl rfl) rfl) (y_nt q6 ?_)
   refine s_py q6 (aops_nil ?_)
   exact jx j6 wk
  iterate 5 refine np q6 ?_
  refine s_pn q6 (aops_nil ?_)
  exact jx j6 wk
 rcases co j2 with ⟨q2,j2⟩|⟨q2,j2⟩
 ·iterate 5 refine np q2 ?_
  iterate 3 refine aops_und rfl rfl rfl rfl rfl ?_
  refine np q2 ?_
  refine s_py q2 (aops_nil ?_)
  exact jx j2 wk
 refine y_fd q2 ?_
 refine y_ld q2 ?_
 obtain ⟨x33,hx33,j2⟩:=bind_s j2
 refine aops_yes rfl rfl rfl rfl q2 (ev_call_v (zhn hx33) rfl [] ai rfl rfl rfl (.inl rfl) rfl) (y_nt q2 ?_)
 refine y_mv q2 ?_
 refine aops_mid 4 (⟨122,[],[(4,.one (.ptr 0 0)),(5,.one (.ptr 1 0)),(6,.one (.ptr 2 0)),(7,.one (.ptr 3 0)),(18,vB ((decide (a3.Op<1))||(decide (a3.Op>36)))),(27,vB ((!x33)&&(a3.A != 0)))],[(0,some (.box [CV.ls zab a0.Types])),(1,some (.box (zab a1))),(2,some (.box (zad a2))),(3,some (.box (c_Instr a3)))]⟩:ASt) ?_ ?_
 ·rcases bool_or ((!x33)) with q34|q34
  ·skip
   refine y_fd q34 ?_
   refine y_ld q34 ?_
   refine y_cm q34 ?_
   refine aops_yes rfl rfl rfl rfl q2 (zau rfl (by first|rfl|exact q34) rfl rfl) (aops_nil ?_)
   exact wq q34
  iterate 3 refine np q34 ?_
  refine aops_yes rfl rfl rfl rfl q2 (zaz rfl (by first|rfl|exact q34) rfl rfl) (aops_nil ?_)
  exact wq q34
 refine s_pn q2 (aops_nil ?_)
 exact jx j2 wk
set_option maxHeartbeats 2000000 in
theorem zfP {k:Nat} {a0:Instr} {c0:Code} {c1:CodeType} {c2:CodeMethod} {r:Bool} (h:zdf k a0 c0 c1 c2=some r):FnC Tryz.prog 79 [.agg (c_Instr a0),.one (.cptr [CV.ls zab c0.Types]),.one (.cptr [.val (Sv c1.Name),CV.ls c_Field c1.Fields,CV.ls zad c1.Methods]),.one (.cptr [.val (Sv c2.Name),CV.ls c_Int c2.Params,cI c2.Result,CV.ls c_Int c2.Locals,CV.ls c_Instr c2.Code])] [] (Det (vB r) []):=by
 unfold zdf at h
 refine fn_intro' 12 Tryz.func79 rfl rfl rfl (aw_seq (aw_region (zaa rfl (st_box 0 rfl rfl rfl rfl) (s_sa ?_))))
 refine aops_nil (aw_seq (aw_region (zaa rfl (zaI (ds:=[_]) rfl rfl rfl rfl) (zaa rfl (zaI (ds:=[_,_,_]) rfl rfl rfl rfl) ?_))))
 refine zaa rfl (zaI (ds:=[_,_,_,_,_]) rfl rfl rfl rfl) (s_ls [_,_,_,_,_,_,_,_] ?_)
 obtain ⟨x1,hx1,h⟩:=bind_s h
 refine zaa rfl (ev_call_v (zgq hx1) rfl [] ai rfl rfl rfl (.inl rfl) rfl) (s_nt ?_)
 refine s_sa (aops_nil ?_)
 cases sj h
 exact aw_ret ⟨rfl,rv r1⟩
set_option maxHeartbeats 2000000 in
theorem zcM {k:Nat} {a0:List Instr} {c1_0:Code} {c1_1:CodeType} {c1_2:CodeMethod} {r:Int} (h:zaW k a0 c1_0 c1_1 c1_2=some r):FnC Tryz.prog 100 [.one (CV.ls c_Instr a0),.one (.fn 79 [.cptr [CV.ls zab c1_0.Types],.cptr [.val (Sv c1_1.Name),CV.ls c_Field c1_1.Fields,CV.ls zad c1_1.Methods],.cptr [.val (Sv c1_2.Name),CV.ls c_Int c1_2.Params,cI c1_2.Result,CV.ls c_Int c1_2.Locals,CV.ls c_Instr c1_2.Code]])] [] (Det (vI r) []):=by
 unfold zaW at h
 refine fn_intro' 19 Tryz.func100 rfl rfl rfl (aw_seq (aw_region (s_sa ?_)))
 refine aops_nil (aw_seq (aw_seq (aw_region (s_mv ?_))))
 refine s_ln ?_
 refine s_mv (aops_nil (aw_block ?_))
 obtain ⟨o1,ho1,h⟩:=bind_s h
 refine aw_loop_x (ι:={p:Nat×Nat // zat k a0 c1_0 c1_1 c1_2 p.1 p.2=some o1}) (fun p=>(⟨19,[],[(0,.one (CV.ls c_Instr a0)),(1,.one (.fn 79 [.cptr [CV.ls zab c1_0.Types],.cptr [.val (Sv c1_1.Name),CV.ls c_Field c1_1.Fields,CV.ls zad c1_1.Methods],.cptr [.val (Sv c1_2.Name),CV.ls c_Int c1_2.Params,cI c1_2.Result,CV.ls c_Int c1_2.Locals,CV.ls c_Instr c1_2.Code]])),(7,vI ((a0.length:Nat):Int)),(8,vI ((p.1.2:Nat):Int))],[]⟩:ASt)) (fun p=>p.1.1) ⟨(k,0),ho1⟩ wk 0 (ε:=Unit) (fun x=>(⟨19,[],[],[]⟩:ASt)) (fun x=>Sum.inl x=o1) (fun _ _ w h=>aw_weak w h) ?_ ?_
 ·intro x1_0 hI1
  subst hI1
  replace h:=onS_l h
  refine aw_seq (aw_region (s_sa (aops_nil ?_)))
  cases sj h
  exact aw_ret ⟨rfl,rv r1⟩
 intro p1
 obtain ⟨⟨n1,s1_0⟩,l1⟩:=p1
 replace l1:zat k a0 c1_0 c1_1 c1_2 n1 s1_0=some o1:=l1
 rcases n1 with _|n1
 ·exact absurd (show none=some o1 from l1) nofun
 rw [zat] at l1
 refine aw_seq (aw_region (s_cm (aops_nil (aw_seq ?_))))
 refine aw_if l1 (fun c2 l1=>?_) (fun c2 l1=>?_)
 ·refine aw_skip (aw_seq (aw_block (aw_seq (aw_region (s_mv ?_)))))
  refine s_sa (aops_nil (aw_seq (aw_region ?_)))
  iterate 3 refine s_mv ?_
  obtain ⟨g3,l1⟩:=ifp_s l1
  refine zaa rfl (zaf rfl rfl rfl g3 rfl rfl) (zaa rfl (zaI (ds:=[_,_,_,_,_,_,_,_]) rfl rfl rfl rfl) ?_)
  obtain ⟨x4,hx4,l1⟩:=bind_s l1
  refine zaa rfl (zee (zfP hx4) rfl rfl [] ai rfl rfl rfl (.inl rfl) rfl) (aops_nil ?_)
  refine aw_if l1 (fun c5 l1=>?_) (fun c5 l1=>?_)
  ·refine aw_seq (aw_region (s_mv ?_))
   refine s_sa (aops_nil ?_)
   cases sj l1
   replace h:=onS_r h
   cases sj h
   exact aw_ret ⟨rfl,rv r1⟩
  refine aw_skip (aw_region ?_)
  obtain ⟨g6,l1⟩:=ifp_s l1
  refine zaa rfl (ev_add rfl rfl rfl (nat_add g6)) (s_mv (aops_nil ?_))
  exact ⟨⟨(n1,(s1_0+1)),l1⟩,Nat.lt_succ_self _,wk⟩
 refine aw_exit ?_
 show ∃_x:Unit,_=_∧Weak _ _
 exact ⟨(),sj l1,wk⟩
set_option maxHeartbeats 2000000 in
theorem zcA {k:Nat} {a0:List Instr} {c1_0:Code} {c1_1:CodeType} {c1_2:CodeMethod} {r:Bool} (h:zaE k a0 c1_0 c1_1 c1_2=some r):FnC Tryz.prog 78 [.one (CV.ls c_Instr a0),.one (.fn 79 [.cptr [CV.ls zab c1_0.Types],.cptr [.val (Sv c1_1.Name),CV.ls c_Field c1_1.Fields,CV.ls zad c1_1.Methods],.cptr [.val (Sv c1_2.Name),CV.ls c_Int c1_2.Params,cI c1_2.Result,CV.ls c_Int c1_2.Locals,CV.ls c_Instr c1_2.Code]])] [] (Det (vB r) []):=by
 unfold zaE at h
 refine fn_intro' 9 Tryz.func78 rfl rfl rfl (aw_seq (aw_region (s_sa ?_)))
 refine aops_nil (aw_seq (aw_region ?_))
 iterate 2 refine s_mv ?_
 obtain ⟨x1,hx1,h⟩:=bind_s h
 refine zaa rfl (ev_call_v (zcM hx1) rfl [] ai rfl rfl rfl (.inl rfl) rfl) (s_cm ?_)
 refine s_sa (aops_nil ?_)
 cases sj h
 exact aw_ret ⟨rfl,rv r1⟩
set_option maxHeartbeats 2000000 in
theorem zgd {k:Nat} {a0:Code} {a1:CodeType} {a2:CodeMethod} {r:Bool} (h:zds k a0 a1 a2=some r):FnC Tryz.prog 44 [.agg [CV.ls zab a0.Types],.agg (zab a1),.agg (zad a2)] [] (Det (vB r) []):=by
 unfold zds at h
 refine fn_intro' 70 Tryz.func44 rfl rfl rfl (aw_seq (aw_region (zaa rfl (st_box 0 rfl rfl rfl rfl) (zaa rfl (st_box 1 rfl rfl rfl rfl) ?_))))
 refine zaa rfl (st_box 2 rfl rfl rfl rfl) (s_sa ?_)
 refine aops_nil (aw_seq (aw_frbox 0 rfl (aw_frbox 1 rfl (aw_frbox 2 rfl (aw_seq (aw_region (zaa rfl (zaM rfl rfl rfl) (zaa rfl (zas rfl rfl rfl) (s_ln ?_)))))))))
 refine s_cm ?_
 refine s_mv ?_
 obtain ⟨o1,j1,h⟩:=bind_s h
 refine aops_cutE 5 o1 (fun x1=>(⟨70,[],[(3,.one (.cptr [CV.ls zab a0.Types])),(4,.one (.cptr [.val (Sv a1.Name),CV.ls c_Field a1.Fields,CV.ls zad a1.Methods])),(5,.one (.cptr [.val (Sv a2.Name),CV.ls c_Int a2.Params,cI a2.Result,CV.ls c_Int a2.Locals,CV.ls c_Instr a2.Code])),(16,vB x1)],[]⟩:ASt)) ?_ ?_
 ·refine s_mv ?_
  obtain ⟨o2,j2,h⟩:=bind_s h
  refine aops_cutE 10 o2 (fun x2=>(⟨70,[],[(3,.one (.cptr [CV.ls zab a0.Types])),(4,.one (.cptr [.val (Sv a1.Name),CV.ls c_Field a1.Fields,CV.ls zad a1.Methods])),(5,.one (.cptr [.val (Sv a2.Name),CV.ls c_Int a2.Params,cI a2.Result,CV.ls c_Int a2.Locals,CV.ls c_Instr a2.Code])),(27,vB x2)],[]⟩:ASt)) ?_ ?_
  ·refine aops_nil ?_
   refine aw_if h (fun c3 h=>?_) (fun c3 h=>?_)
   ·refine aw_seq (aw_region (s_sa (aops_nil ?_)))
    cases sj h
    exact aw_ret ⟨rfl,rv r1⟩
   refine aw_skip (aw_seq ?_)
   rcases co h with ⟨q4,h⟩|⟨q4,h⟩
   ·refine aw_seq ?_
    apply aw_draw 28 [ad _,ad _,ad _,ad _,ad _,ad _,ad _,ad _,ad _,ad _,ad _,ad _,ad _,ad _,ad _,ad _,ad _,ad _,ad _,ad _,ad _,ad _,ad _,ad _,ad _,ad _,ad _,ad _] (by decide) rfl ?hk1x ?hf1x ?ho1x ?hr1x
    case ho1x =>
     refine o_fi 0 ?_
     refine o_li 1 ?_
     refine o_ln 3 ?_
     refine o_cm 7 ?_
     refine o_mv 15 ?_
     refine on 31 q4 ?_
     refine on 63 q4 ?_
     refine on 127 q4 ?_
     refine on 255 q4 ?_
     refine obn 511 (fun S hle hfr=>.inl ⟨w0,zau (hle.e rfl) (by first|rfl|exact q4) (hle.e rfl) (hle.d rfl)⟩) ?_
     refine o_mv 1023 ?_
     refine on 2047 trivial ?_
     refine on 4095 trivial ?_
     refine on 8191 trivial ?_
     refine on 2047 trivial ?_
     refine on 18431 trivial ?_
     refine on 51199 trivial ?_
     refine on 131071 trivial ?_
     refine obn 262143 (fun S hle hfr=>.inl ⟨w0,zau (hle.e rfl) (by first|rfl|exact rfl) (hle.e rfl) (hle.d rfl)⟩) ?_
     refine o_mv 524287 ?_
     refine on 1048575 trivial ?_
     refine on 2097151 trivial ?_
     refine on 1048575 trivial ?_
     refine on 5242879 trivial ?_
     refine on 13631487 trivial ?_
     refine on 33554431 trivial ?_
     refine on 1048575 trivial ?_
     refine on 68157439 trivial ?_
     exact trivial
    case hk1x=>rfl
    case hf1x=>rfl
    refine aops_no rfl rfl rfl rfl rfl (by decide) (aops_no rfl rfl rfl rfl rfl (by decide) (zaa rfl (zau rfl (by first|rfl|exact rfl) rfl rfl) (s_mv ?_)))
    iterate 4 refine aops_no rfl rfl rfl rfl rfl (by decide) ?_
    refine zaa rfl (zau rfl (by first|rfl|exact rfl) rfl rfl) (aops_nil (aw_yes rfl (rfl) (aw_seq (aw_region (s_sa (aops_nil ?_))))))
    cases sj h
    exact aw_ret ⟨rfl,rv r1⟩
   obtain ⟨x5,hx5,h⟩:=bind_s h
   rcases co h with ⟨q6,h⟩|⟨q6,h⟩
   ·refine aw_seq ?_
    apply aw_draw 28 [ad _,ad _,ad _,ad _,ad _,ad _,ad _,ad _,ad _,ad _,ad _,ad _,ad _,ad _,ad _,ad _,ad _,ad _,ad _,ad _,ad _,ad _,ad _,ad _,ad _,ad _,ad _,ad _] (by decide) rfl ?hk2x ?hf2x ?ho2x ?hr2x
    case ho2x =>
     refine o_fi 0 ?_
     refine o_li 1 ?_
     refine o_ln 3 ?_
     refine o_cm 7 ?_
     refine o_mv 15 ?_
     refine p_fi 31 q4 ?_
     refine p_li 63 q4 ?_
     refine obn 127 (fun S hle hfr=>.inl ⟨wy hle q4,ev_call_v (zdB hx5) (map_ev (.cons (hle.e rfl) (.nil))) [] (by repeat' (first|exact .nil|refine .cons ?_ ?_|refine .one ?_|refine .agg ?_|exact .mk rfl|exact .lend (hle.heap _ _ rfl) (by simp)|exact .le (.nil _) rfl|exact .le (.emp _) rfl|exact .le (.any _) rfl|fail)) rfl rfl rfl (.inl rfl) (hle.d rfl)⟩) ?_
     refine p_nt 255 q4 ?_
     refine obn 511 (fun S hle hfr=>.inl ⟨w0,zaz (hle.e rfl) (by first|rfl|exact q4) (hle.e rfl) (hle.d rfl)⟩) ?_
     refine o_mv 1023 ?_
     refine on 2047 q6 ?_
     refine on 4095 q6 ?_
     refine on 8191 q6 ?_
     refine on 2047 q6 ?_
     refine on 18431 q6 ?_
     refine on 51199 q6 ?_
     refine on 131071 q6 ?_
     refine obn 262143 (fun S hle hfr=>.inl ⟨w0,zau (hle.e rfl) (by first|rfl|exact q6) (hle.e rfl) (hle.d rfl)⟩) ?_
     refine o_mv 524287 ?_
     refine on 1048575 trivial ?_
     refine on 2097151 trivial ?_
     refine on 1048575 trivial ?_
     refine on 5242879 trivial ?_
     refine on 13631487 trivial ?_
     refine on 33554431 trivial ?_
     refine on 1048575 trivial ?_
     refine on 68157439 trivial ?_
     exact trivial
    case hk2x=>rfl
    case hf2x=>rfl
    refine aops_no rfl rfl rfl rfl rfl (by decide) (aops_no rfl rfl rfl rfl rfl (by decide) (zaa rfl (zau rfl (by first|rfl|exact rfl) rfl rfl) (s_mv ?_)))
    iterate 4 refine aops_no rfl rfl rfl rfl rfl (by decide) ?_
    refine zaa rfl (zau rfl (by first|rfl|exact rfl) rfl rfl) (aops_nil (aw_yes rfl (rfl) (aw_seq (aw_region (s_sa (aops_nil ?_))))))
    cases sj h
    exact aw_ret ⟨rfl,rv r1⟩
   rcases co h with ⟨q7,h⟩|⟨q7,h⟩
   ·refine aw_seq ?_
    apply aw_draw 28 [ad _,ad _,ad _,ad _,ad _,ad _,ad _,ad _,ad _,ad _,ad _,ad _,ad _,ad _,ad _,ad _,ad _,ad _,ad _,ad _,ad _,ad _,ad _,ad _,ad _,ad _,ad _,ad _] (by decide) rfl ?hk3x ?hf3x ?ho3x ?hr3x
    case ho3x =>
     refine o_fi 0 ?_
     refine o_li 1 ?_
     refine o_ln 3 ?_
     refine o_cm 7 ?_
     refine o_mv 15 ?_
     refine p_fi 31 q4 ?_
     refine p_li 63 q4 ?_
     refine obn 127 (fun S hle hfr=>.inl ⟨wy hle q4,ev_call_v (zdB hx5) (map_ev (.cons (hle.e rfl) (.nil))) [] (by repeat' (first|exact .nil|refine .cons ?_ ?_|refine .one ?_|refine .agg ?_|exact .mk rfl|exact .lend (hle.heap _ _ rfl) (by simp)|exact .le (.nil _) rfl|exact .le (.emp _) rfl|exact .le (.any _) rfl|fail)) rfl rfl rfl (.inl rfl) (hle.d rfl)⟩) ?_
     refine p_nt 255 q4 ?_
     refine obn 511 (fun S hle hfr=>.inl ⟨w0,zaz (hle.e rfl) (by first|rfl|exact q4) (hle.e rfl) (hle.d rfl)⟩) ?_
     refine o_mv 1023 ?_
     refine p_fi 2047 q6 ?_
     refine p_li 4095 q6 ?_
     refine p_ln 8191 q6 ?_
     refine p_fi 2047 q6 ?_
     refine p_li 18431 q6 ?_
     refine p_ln 51199 q6 ?_
     refine p_cm 131071 q6 ?_
     refine obn 262143 (fun S hle hfr=>.inl ⟨w0,zaz (hle.e rfl) (by first|rfl|exact q6) (hle.e rfl) (hle.d rfl)⟩) ?_
     refine o_mv 524287 ?_
     refine on 1048575 q7 ?_
     refine on 2097151 q7 ?_
     refine on 1048575 q7 ?_
     refine on 5242879 q7 ?_
     refine on 13631487 q7 ?_
     refine on 33554431 q7 ?_
     refine on 1048575 q7 ?_
     refine on 68157439 q7 ?_
     exact trivial
    case hk3x=>rfl
    case hf3x=>rfl
    iterate 2 refine np q7 ?_
    refine s_py q7 ?_
    refine s_mv ?_
    iterate 4 refine aops_no rfl rfl rfl rfl rfl (by decide) ?_
    refine zaa rfl (zau rfl (by first|rfl|exact rfl) rfl rfl) (aops_nil (aw_yes rfl (rfl) (aw_seq (aw_region (s_sa (aops_nil ?_))))))
    cases sj h
    exact aw_ret ⟨rfl,rv r1⟩
   obtain ⟨g8,h⟩:=ifp_s h
   obtain ⟨x9,hx9,h⟩:=bind_s h
   rcases co h with ⟨q10,h⟩|⟨q10,h⟩
   ·refine aw_seq ?_
    apply aw_draw 28 [ad _,ad _,ad _,ad _,ad _,ad _,ad _,ad _,ad _,ad _,ad _,ad _,ad _,ad _,ad _,ad _,ad _,ad _,ad _,ad _,ad _,ad _,ad _,ad _,ad _,ad _,ad _,ad _] (by decide) rfl ?hk4x ?hf4x ?ho4x ?hr4x
    case ho4x =>
     refine o_fi 0 ?_
     refine o_li 1 ?_
     refine o_ln 3 ?_
     refine o_cm 7 ?_
     refine o_mv 15 ?_
     refine p_fi 31 q4 ?_
     refine p_li 63 q4 ?_
     refine obn 127 (fun S hle hfr=>.inl ⟨wy hle q4,ev_call_v (zdB hx5) (map_ev (.cons (hle.e rfl) (.nil))) [] (by repeat' (first|exact .nil|refine .cons ?_ ?_|refine .one ?_|refine .agg ?_|exact .mk rfl|exact .lend (hle.heap _ _ rfl) (by simp)|exact .le (.nil _) rfl|exact .le (.emp _) rfl|exact .le (.any _) rfl|fail)) rfl rfl rfl (.inl rfl) (hle.d rfl)⟩) ?_
     refine p_nt 255 q4 ?_
     refine obn 511 (fun S hle hfr=>.inl ⟨w0,zaz (hle.e rfl) (by first|rfl|exact q4) (hle.e rfl) (hle.d rfl)⟩) ?_
     refine o_mv 1023 ?_
     refine p_fi 2047 q6 ?_
     refine p_li 4095 q6 ?_
     refine p_ln 8191 q6 ?_
     refine p_fi 2047 q6 ?_
     refine p_li 18431 q6 ?_
     refine p_ln 51199 q6 ?_
     refine p_cm 131071 q6 ?_
     refine obn 262143 (fun S hle hfr=>.inl ⟨w0,zaz (hle.e rfl) (by first|rfl|exact q6) (hle.e rfl) (hle.d rfl)⟩) ?_
     refine o_mv 524287 ?_
     refine p_fi 1048575 q7 ?_
     refine p_li 2097151 q7 ?_
     refine p_fi 1048575 q7 ?_
     refine p_li 5242879 q7 ?_
     refine p_ln 13631487 q7 ?_
     refine obn 33554431 (fun S hle hfr=>.inl ⟨wy hle q7,st_cut_hi (f:=c_Int) (fun _=>rfl) (hle.e rfl) ⟨_,_,(hle.e rfl),rfl⟩ g8 (hle.d rfl)⟩) ?_
     refine p_fi 1048575 q7 ?_
     refine p_li 68157439 q7 ?_
     exact trivial
    case hk4x=>rfl
    case hf4x=>rfl
    refine aops_yes rfl rfl rfl rfl q7 (ev_call_v (zdV hx9) rfl [] ai rfl rfl rfl (.inl rfl) rfl) (y_nt q7 ?_)
    refine s_pn q7 ?_
    refine s_mv ?_
    iterate 4 refine np q10 ?_
    refine s_py q10 ?_
    refine aops_nil (aw_yes rfl (rfl) (aw_seq (aw_region (s_sa (aops_nil ?_)))))
    cases sj h
    exact aw_ret ⟨rfl,rv r1⟩
   refine aw_seq ?_
   apply aw_draw 28 [ad _,ad _,ad _,ad _,ad _,ad _,ad _,ad _,ad _,ad _,ad _,ad _,ad _,ad _,ad _,ad _,ad _,ad _,ad _,ad _,ad _,ad _,ad _,ad _,ad _,ad _,ad _,ad _] (by decide) rfl ?hk5x ?hf5x ?ho5x ?hr5x
   case ho5x =>
    refine o_fi 0 ?_
    refine o_li 1 ?_
    refine o_ln 3 ?_
    refine o_cm 7 ?_
    refine o_mv 15 ?_
    refine p_fi 31 q4 ?_
    refine p_li 63 q4 ?_
    refine obn 127 (fun S hle hfr=>.inl ⟨wy hle q4,ev_call_v (zdB hx5) (map_ev (.cons (hle.e rfl) (.nil))) [] (by repeat' (first|exact .nil|refine .cons ?_ ?_|refine .one ?_|refine .agg ?_|exact .mk rfl|exact .lend (hle.heap _ _ rfl) (by simp)|exact .le (.nil _) rfl|exact .le (.emp _) rfl|exact .le (.any _) rfl|fail)) rfl rfl rfl (.inl rfl) (hle.d rfl)⟩) ?_
    refine p_nt 255 q4 ?_
    refine obn 511 (fun S hle hfr=>.inl ⟨w0,zaz (hle.e rfl) (by first|rfl|exact q4) (hle.e rfl) (hle.d rfl)⟩) ?_
    refine o_mv 1023 ?_
    refine p_fi 2047 q6 ?_
    refine p_li 4095 q6 ?_
    refine p_ln 8191 q6 ?_
    refine p_fi 2047 q6 ?_
    refine p_li 18431 q6 ?_
    refine p_ln 51199 q6 ?_
    refine p_cm 131071 q6 ?_
    refine obn 262143 (fun S hle hfr=>.inl ⟨w0,zaz (hle.e rfl) (by first|rfl|exact q6) (hle.e rfl) (hle.d rfl)⟩) ?_
    refine o_mv 524287 ?_
    refine p_fi 1048575 q7 ?_
    refine p_li 2097151 q7 ?_
    refine p_fi 1048575 q7 ?_
    refine p_li 5242879 q7 ?_
    refine p_ln 13631487 q7 ?_
    refine obn 33554431 (fun S hle hfr=>.inl ⟨wy hle q7,st_cut_hi (f:=c_Int) (fun _=>rfl) (hle.e rfl) ⟨_,_,(hle.e rfl),rfl⟩ g8 (hle.d rfl)⟩) ?_
    refine p_fi 1048575 q7 ?_
    refine p_li 68157439 q7 ?_
    exact trivial
   case hk5x=>rfl
   case hf5x=>rfl
   refine aops_yes rfl rfl rfl rfl q7 (ev_call_v (zdV hx9) rfl [] ai rfl rfl rfl (.inl rfl) rfl) (y_nt q7 ?_)
   refine s_pn q7 ?_
   refine s_mv ?_
   refine aops_yes rfl rfl rfl rfl q10 (zaM rfl rfl rfl) (aops_yes rfl rfl rfl rfl q10 (zas rfl rfl rfl) (y_ln q10 ?_))
   refine y_cm q10 ?_
   refine s_pn q10 (aops_nil ?_)
   refine aw_if h (fun c11 h=>?_) (fun c11 h=>?_)
   ·refine aw_seq (aw_region (s_sa (aops_nil ?_)))
    cases sj h
    exact aw_ret ⟨rfl,rv r1⟩
   refine aw_skip (aw_seq (aw_region (zaa rfl (zaM rfl rfl rfl) (zaa rfl (zas rfl rfl rfl) ?_))))
   refine zaa rfl (zeK [.cptr [CV.ls zab a0.Types],.cptr [.val (Sv a1.Name),CV.ls c_Field a1.Fields,CV.ls zad a1.Methods],.cptr [.val (Sv a2.Name),CV.ls c_Int a2.Params,cI a2.Result,CV.ls c_Int a2.Locals,CV.ls c_Instr a2.Code]] rfl rfl rfl) ?_
   obtain ⟨x12,hx12,h⟩:=bind_s h
   refine zaa rfl (ev_call_v (zcA hx12) rfl [] ai rfl rfl rfl (.inl rfl) rfl) (s_nt ?_)
   refine s_sa (aops_nil ?_)
   cases sj h
   exact aw_ret ⟨rfl,rv r1⟩
  rcases co j2 with ⟨q2,j2⟩|⟨q2,j2⟩
  ·iterate 4 refine np q2 ?_
   iterate 4 refine aops_und rfl rfl rfl rfl rfl ?_
   refine np q2 ?_
   refine s_py q2 (aops_nil ?_)
   exact jx j2 wk
  refine aops_yes rfl rfl rfl rfl q2 (zaM rfl rfl rfl) (aops_yes rfl rfl rfl rfl q2 (zas rfl rfl rfl) (y_cm q2 ?_))
  refine y_mv q2 ?_
  obtain ⟨o13,j13,j2⟩:=bind_s j2
  refine aops_cutE 5 o13 (fun x13=>(⟨70,[],[(3,.one (.cptr [CV.ls zab a0.Types])),(4,.one (.cptr [.val (Sv a1.Name),CV.ls c_Field a1.Fields,CV.ls zad a1.Methods])),(5,.one (.cptr [.val (Sv a2.Name),CV.ls c_Int a2.Params,cI a2.Result,CV.ls c_Int a2.Locals,CV.ls c_Instr a2.Code])),(17,vB o1),(26,vB x13)],[]⟩:ASt)) ?_ ?_
  ·refine s_pn q2 (aops_nil ?_)
   exact jx j2 wk
  rcases co j13 with ⟨q13,j13⟩|⟨q13,j13⟩
  ·refine aops_yes rfl rfl rfl rfl q13 (zaM rfl rfl rfl) (aops_yes rfl rfl rfl rfl q13 (zas rfl rfl rfl) ?_)
   obtain ⟨x14,hx14,j13⟩:=bind_s j13
   refine aops_yes rfl rfl rfl rfl q13 (ev_call_v (zeS hx14) rfl [] ai rfl rfl rfl (.inl rfl) rfl) (y_nt q13 ?_)
   refine aops_yes rfl rfl rfl rfl q2 (zau rfl (by first|rfl|exact q13) rfl rfl) (aops_nil ?_)
   exact jx j13 wk
  iterate 4 refine np q13 ?_
  refine aops_yes rfl rfl rfl rfl q2 (zaz rfl (by first|rfl|exact q13) rfl rfl) (aops_nil ?_)
  exact jx j13 wk
 rcases co j1 with ⟨q1,j1⟩|⟨q1,j1⟩
 ·iterate 4 refine np q1 ?_
  refine s_py q1 (aops_nil ?_)
  exact jx j1 wk
 refine aops_yes rfl rfl rfl rfl q1 (zaM rfl rfl rfl) (aops_yes rfl rfl rfl rfl q1 (zas rfl rfl rfl) ?_)
 obtain ⟨x15,hx15,j1⟩:=bind_s j1
 refine aops_yes rfl rfl rfl rfl q1 (ev_call_v (zdB hx15) rfl [] ai rfl rfl rfl (.inl rfl) rfl) (y_nt q1 ?_)
 refine s_pn q1 (aops_nil ?_)
 exact jx j1 wk
end Md
end Go.Proofs.YtclffekkjfhpdaaGreat

