import Derived.Test.YtclffekkjfhpdaaGreatQAbsSw
import Derived.Test.YtclffekkjfhpdaaGreatQMo
import Derived.Test.YtclffekkjfhpdaaGreatQTy
import Derived.Test.YtclffekkjfhpdaaGreatQAbsS
import Derived.Test.YtclffekkjfhpdaaGreatQRefB
import Derived.Test.YtclffekkjfhpdaaGreatQRefD
namespace Go.Proofs.YtclffekkjfhpdaaGreat
open Go.ChangeShapes Go.WideShapes Go.RowKit
open Abs
set_option linter.unusedVariables false
set_option linter.unusedSimpArgs false
set_option maxRecDepth 10000
namespace Md
set_option maxHeartbeats 2000000 in
theorem zdR {k:Nat} {a0:Code} {r:Int} (h:zcN k a0=some r):FnC Tryz.prog 7 [.agg [CV.ls zab a0.Types]] [] (Det (vI r) []):=by
 unfold zcN at h
 refine fn_intro' 49 Tryz.func7 rfl rfl rfl (aw_seq (aw_region (zaa rfl (st_box 0 rfl rfl rfl rfl) (s_sa ?_))))
 refine aops_nil (aw_seq (aw_seq (aw_region (s_ls [_] ?_))))
 obtain ⟨x1,hx1,h⟩:=bind_s h
 refine zaa rfl (ev_call_v (zgo hx1) rfl [] ai rfl rfl rfl (.inl rfl) rfl) (s_nt (aops_nil ?_))
 refine aw_if h (fun c2 h=>?_) (fun c2 h=>?_)
 ·refine aw_seq (aw_region (s_sa (aops_nil ?_)))
  cases sj h
  exact aw_ret ⟨rfl,rv r1⟩
 refine aw_skip (aw_seq (aw_seq (aw_region (s_sa (aops_nil (aw_block ?_))))))
 obtain ⟨o3,ho3,h⟩:=bind_s h
 refine aw_loop_x (ι:={p:Nat×Nat // zbb k a0 p.1 p.2=some o3}) (fun p=>(⟨49,[],[(1,.one (.ptr 0 0)),(3,vI ((p.1.2:Nat):Int))],[(0,some (.box [CV.ls zab a0.Types]))]⟩:ASt)) (fun p=>p.1.1) ⟨(k,0),ho3⟩ wk 0 (ε:=Unit) (fun x=>(⟨49,[],[],[]⟩:ASt)) (fun x=>Sum.inl x=o3) (fun _ _ w h=>aw_weak w h) ?_ ?_
 ·intro x3_0 hI3
  subst hI3
  replace h:=onS_l h
  refine aw_seq (aw_region (s_sa (aops_nil ?_)))
  cases sj h
  exact aw_ret ⟨rfl,rv r1⟩
 intro p3
 obtain ⟨⟨n3,s3_0⟩,l3⟩:=p3
 replace l3:zbb k a0 n3 s3_0=some o3:=l3
 rcases n3 with _|n3
 ·exact absurd (show none=some o3 from l3) nofun
 rw [zbb] at l3
 refine aw_seq (aw_seq (aw_region (s_mv ?_)))
 refine s_fd ?_
 refine s_ld ?_
 refine s_ln ?_
 refine s_cm (aops_nil ?_)
 refine aw_if l3 (fun c4 l3=>?_) (fun c4 l3=>?_)
 ·refine aw_skip ?_
  obtain ⟨o5,j5,l3⟩:=bind_s l3
  refine aw_cut (ε:=Unit) (fun x=>(⟨49,[],[(1,.one (.ptr 0 0)),(3,vI ((s3_0:Nat):Int))],[(0,some (.box [CV.ls zab a0.Types]))]⟩:ASt)) (fun x=>Sum.inl x=o5) ?_ ?_
  ·intro x5_0 hI5
   subst hI5
   replace l3:=onS_l l3
   refine aw_region (s_mv ?_)
   obtain ⟨g6,l3⟩:=ifp_s l3
   refine zaa rfl (ev_add rfl rfl rfl (nat_add g6)) (s_sa (aops_nil ?_))
   exact ⟨⟨(n3,(s3_0+1)),l3⟩,Nat.lt_succ_self _,wk⟩
  refine aw_block (aw_seq (aw_region (s_sa (aops_nil (aw_block ?_)))))
  obtain ⟨o7,ho7,j5⟩:=bind_s j5
  refine aw_loop (ι:={p:Nat×Nat // zba k a0 s3_0 p.1 p.2=some o7}) (fun p=>(⟨49,[],[(1,.one (.ptr 0 0)),(3,vI ((s3_0:Nat):Int)),(4,vI ((p.1.2:Nat):Int))],[(0,some (.box [CV.ls zab a0.Types]))]⟩:ASt)) (fun p=>p.1.1) ⟨(k,0),ho7⟩ wk ?_
  intro p7
  obtain ⟨⟨n7,s7_0⟩,l7⟩:=p7
  replace l7:zba k a0 s3_0 n7 s7_0=some o7:=l7
  rcases n7 with _|n7
  ·exact absurd (show none=some o7 from l7) nofun
  rw [zba] at l7
  refine aw_seq (aw_seq (aw_region (s_mv ?_)))
  refine s_fd ?_
  refine s_ld ?_
  refine s_mv ?_
  obtain ⟨g8,l7⟩:=ifp_s l7
  refine zaa rfl (zaf rfl rfl rfl g8 rfl rfl) (zaa rfl (zaM rfl rfl rfl) (zaa rfl (zas rfl rfl rfl) (s_ln ?_)))
  refine s_cm (aops_nil ?_)
  refine aw_if l7 (fun c9 l7=>?_) (fun c9 l7=>?_)
  ·refine aw_skip (aw_seq (aw_block ?_))
   obtain ⟨g10,l7⟩:=ifp_s l7
   obtain ⟨g11,l7⟩:=ifp_s l7
   obtain ⟨g12,l7⟩:=ifp_s l7
   obtain ⟨x13,hx13,l7⟩:=bind_s l7
   refine aw_seq ?_
   apply aw_draw 20 [ad _,ad _,ad _,ad _,ad _,ad _,ad _,ad _,ad _,ad _,ad _,ad _,ad _,ad _,ad _,ad _,ad _,ad _,ad _,ad _] (by decide) rfl ?hk36x ?hf36x ?ho36x ?hr36x
   case ho36x =>
    refine obn 0 (fun S hle hfr=>.inl ⟨w0,ev_loads (ds:=[_]) (hle.e rfl) (hle.heap _ _ rfl) rfl rfl (hle.d rfl)⟩) ?_
    refine o_fd 0 ?_
    refine o_ld 2 ?_
    refine o_mv 0 ?_
    refine obn 14 (fun S hle hfr=>.inl ⟨w0,zaf (hle.e rfl) (hle.e rfl) rfl g10 rfl (hle.d rfl)⟩) ?_
    refine obn 30 (fun S hle hfr=>.inl ⟨w0,zaI (ds:=[_,_,_]) (hle.e rfl) rfl rfl (hle.d rfl)⟩) ?_
    refine o_fd 0 ?_
    refine o_ld 64 ?_
    refine o_mv 0 ?_
    refine obn 448 (fun S hle hfr=>.inl ⟨w0,zaf (hle.e rfl) (hle.e rfl) rfl g11 rfl (hle.d rfl)⟩) ?_
    refine o_fi 960 ?_
    refine o_li 1984 ?_
    refine o_mv 0 ?_
    refine obn 8128 (fun S hle hfr=>.inl ⟨w0,zaf (hle.e rfl) (hle.e rfl) rfl g12 rfl (hle.d rfl)⟩) ?_
    refine obn 16320 (fun S hle hfr=>.inl ⟨w0,zaI (ds:=[_,_,_,_,_]) (hle.e rfl) rfl rfl (hle.d rfl)⟩) ?_
    refine obn 32767 (fun S hle hfr=>.inl ⟨w0,ev_call_v (zeF hx13) (map_ev (.cons (hle.e rfl) (.cons (hle.e rfl) (.cons (hle.e rfl) (.nil))))) [] (by repeat' (first|exact .nil|refine .cons ?_ ?_|refine .one ?_|refine .agg ?_|exact .mk rfl|exact .lend (hle.heap _ _ rfl) (by simp)|exact .le (.nil _) rfl|exact .le (.emp _) rfl|exact .le (.any _) rfl|fail)) rfl rfl rfl (.inl rfl) (hle.d rfl)⟩) ?_
    refine o_mt 65535 ?_
    refine o_ex 131071 ?_
    refine o_ex 131071 ?_
    refine o_sa 262143 ?_
    exact trivial
   case hk36x=>rfl
   case hf36x=>rfl
   refine s_sa ?_
   refine aops_nil (aw_seq (aw_region (s_mv ?_)))
   refine s_nt (aops_nil ?_)
   refine aw_if l7 (fun c14 l7=>?_) (fun c14 l7=>?_)
   ·refine aw_seq (aw_region (s_sa (aops_nil ?_)))
    cases sj l7
    replace j5:=onS_r j5
    cases sj j5
    replace l3:=onS_r l3
    cases sj l3
    replace h:=onS_r h
    cases sj h
    exact aw_ret ⟨rfl,rv r1⟩
   refine aw_skip (aw_region (s_mv ?_))
   obtain ⟨g15,l7⟩:=ifp_s l7
   refine zaa rfl (ev_add rfl rfl rfl (nat_add g15)) (s_sa (aops_nil ?_))
   exact ⟨⟨(n7,(s7_0+1)),l7⟩,Nat.lt_succ_self _,wk⟩
  refine aw_exit ?_
  have e7:=sj l7
  subst e7
  replace j5:=onS_l j5
  show ∃_x:Unit,_=_∧Weak _ _
  exact ⟨(),sj j5,wk⟩
 refine aw_exit ?_
 show ∃_x:Unit,_=_∧Weak _ _
 exact ⟨(),sj l3,wk⟩
set_option maxHeartbeats 2000000 in
theorem zgc {k:Nat} {a0:Code} {a1:Int} {a2:Int} {r:(List Int)} (h:zch k a0 a1 a2=some r):FnC Tryz.prog 10 [.agg [CV.ls zab a0.Types],vI a1,vI a2] [] (Det (.one (CV.ls c_Int r)) []):=by
 unfold zch at h
 refine fn_intro' 75 Tryz.func10 rfl rfl rfl (aw_seq (aw_region (zaa rfl (st_box 0 rfl rfl rfl rfl) (s_sa ?_))))
 refine aops_nil (aw_seq (aw_seq (aw_region (s_ls [_] ?_))))
 obtain ⟨x1,hx1,h⟩:=bind_s h
 refine zaa rfl (ev_call_v (zdR hx1) rfl [] ai rfl rfl rfl (.inl rfl) rfl) (s_cm ?_)
 refine s_mv ?_
 refine bo 3 ((x1 != 0)||(decide (a1<0))) ?_
 refine s_mv ?_
 refine bo 6 (((x1 != 0)||(decide (a1<0)))||(decide (a1≥((a0.Types.length:Nat):Int)))) ?_
 refine s_mv ?_
 refine bo 3 ((((x1 != 0)||(decide (a1<0)))||(decide (a1≥((a0.Types.length:Nat):Int))))||(decide (a2<0))) ?_
 refine s_mv ?_
 obtain ⟨o5,j5,h⟩:=bind_s h
 refine aops_cutE 10 o5 (fun x5=>(⟨75,[],[(1,vI a1),(2,vI a2),(3,.one (.ptr 0 0)),(39,vB x5)],[(0,some (.box [CV.ls zab a0.Types]))]⟩:ASt)) ?_ ?_
 ·refine aops_nil ?_
  refine aw_if h (fun c6 h=>?_) (fun c6 h=>?_)
  ·refine aw_seq (aw_region (s_sa (aops_nil ?_)))
   cases sj h
   exact aw_ret ⟨rfl,rv r1⟩
  refine aw_skip ?_
  obtain ⟨g7,h⟩:=ifp_s h
  obtain ⟨g8,h⟩:=ifp_s h
  obtain ⟨g9,h⟩:=ifp_s h
  obtain ⟨x10,hx10,h⟩:=bind_s h
  refine aw_seq ?_
  apply aw_draw 20 [ad _,ad _,ad _,ad _,ad _,ad _,ad _,ad _,ad _,ad _,ad _,ad _,ad _,ad _,ad _,ad _,ad _,ad _,ad _,ad _] (by decide) rfl ?hk1x ?hf1x ?ho1x ?hr1x
  case ho1x =>
   refine obn 0 (fun S hle hfr=>.inl ⟨w0,ev_loads (ds:=[_]) (hle.e rfl) (hle.heap _ _ rfl) rfl rfl (hle.d rfl)⟩) ?_
   refine o_fd 0 ?_
   refine o_ld 2 ?_
   refine o_mv 0 ?_
   refine obn 14 (fun S hle hfr=>.inl ⟨w0,zaf (hle.e rfl) (hle.e rfl) (idx_eq g7) (idx_lt g7) rfl (hle.d rfl)⟩) ?_
   refine obn 30 (fun S hle hfr=>.inl ⟨w0,zaI (ds:=[_,_,_]) (hle.e rfl) rfl rfl (hle.d rfl)⟩) ?_
   refine o_fd 0 ?_
   refine o_ld 64 ?_
   refine o_mv 0 ?_
   refine obn 448 (fun S hle hfr=>.inl ⟨w0,zaf (hle.e rfl) (hle.e rfl) (idx_eq g8) (idx_lt g8) rfl (hle.d rfl)⟩) ?_
   refine o_fi 960 ?_
   refine o_li 1984 ?_
   refine o_mv 0 ?_
   refine obn 8128 (fun S hle hfr=>.inl ⟨w0,zaf (hle.e rfl) (hle.e rfl) (idx_eq g9) (idx_lt g9) rfl (hle.d rfl)⟩) ?_
   refine obn 16320 (fun S hle hfr=>.inl ⟨w0,zaI (ds:=[_,_,_,_,_]) (hle.e rfl) rfl rfl (hle.d rfl)⟩) ?_
   refine obn 32767 (fun S hle hfr=>.inl ⟨w0,ev_call_v (zeF hx10) (map_ev (.cons (hle.e rfl) (.cons (hle.e rfl) (.cons (hle.e rfl) (.nil))))) [] (by repeat' (first|exact .nil|refine .cons ?_ ?_|refine .one ?_|refine .agg ?_|exact .mk rfl|exact .lend (hle.heap _ _ rfl) (by simp)|exact .le (.nil _) rfl|exact .le (.emp _) rfl|exact .le (.any _) rfl|fail)) rfl rfl rfl (.inl rfl) (hle.d rfl)⟩) ?_
   refine o_mt 65535 ?_
   refine o_ex 131071 ?_
   refine o_ex 131071 ?_
   refine o_sa 262143 ?_
   exact trivial
  case hk1x=>rfl
  case hf1x=>rfl
  refine s_sa ?_
  refine aops_nil (aw_seq (aw_region (s_sa ?_)))
  refine aops_nil (aw_seq (aw_seq (aw_region (s_sa ?_))))
  refine aops_nil (aw_block (zfl 9 1 3 1 (lsEl c_Int []) rfl rfl ?_))
  obtain ⟨o11,ho11,h⟩:=bind_s h
  refine aw_loop_x (ι:={p:Nat×Nat×(List Int) // zbQ k x10 p.1 p.2.1 p.2.2=some o11}) (fun p=>(⟨75,[],[(7,.one (CV.ls zah x10.1)),(9,.one (.own 1)),(10,vI ((p.1.2.1:Nat):Int))],[(1,some (.row 3 1 p.1.2.2.length (lsEl c_Int p.1.2.2)))]⟩:ASt)) (fun p=>p.1.1) ⟨(k,0,([]:List Int)),ho11⟩ wk 0 (ε:=(List Int)) (fun x=>(⟨75,[],[(9,.one (.own 1))],[(1,some (.row 3 1 x.length (lsEl c_Int x)))]⟩:ASt)) (fun x=>x=o11) (fun _ _ w h=>aw_weak w h) ?_ ?_
  ·intro x11_0 hI11
   subst hI11
   refine aw_seq (aw_region (s_mv ?_))
   refine s_sa (aops_nil ?_)
   cases sj h
   refine aw_freeze 1 rfl ?_
   exact aw_ret ⟨rfl,rv r1⟩
  intro p11
  obtain ⟨⟨n11,s11_0,s11_1⟩,l11⟩:=p11
  replace l11:zbQ k x10 n11 s11_0 s11_1=some o11:=l11
  rcases n11 with _|n11
  ·exact absurd (show none=some o11 from l11) nofun
  rw [zbQ] at l11
  refine aw_seq (aw_seq (aw_region ?_))
  iterate 2 refine s_mv ?_
  refine s_ln ?_
  refine s_cm (aops_nil ?_)
  refine aw_if l11 (fun c12 l11=>?_) (fun c12 l11=>?_)
  ·refine aw_skip (aw_seq (aw_block (aw_region ?_)))
   iterate 3 refine s_mv ?_
   obtain ⟨g13,l11⟩:=ifp_s l11
   refine zaa rfl (zaf rfl rfl rfl g13 rfl rfl) (zaa rfl (zaM rfl rfl rfl) (zaa rfl (zas rfl rfl rfl) (s_ln ?_)))
   refine zaa rfl (zac (el:=lsEl c_Int [((((x10.1.getD s11_0 default).Stack).length:Nat):Int)]) 2 rfl rfl rfl rfl rfl rfl rfl rfl (lit_el c_Int 1 [((((x10.1.getD s11_0 default).Stack).length:Nat):Int)] (fun _=>rfl)) rfl) ?_
   obtain ⟨g14,l11⟩:=ifp_s l11
   refine zaa rfl (st_app_ls (f:=c_Int) s11_1 [((((x10.1.getD s11_0 default).Stack).length:Nat):Int)] (fun _=>rfl) rfl rfl (.inr ⟨_,_,rfl,rfl⟩) (by omega) (by omega) rfl) (s_sa ?_)
   refine aops_nil (aw_region (s_mv ?_))
   obtain ⟨g15,l11⟩:=ifp_s l11
   refine zaa rfl (ev_add rfl rfl rfl (nat_add g15)) (s_sa (aops_nil ?_))
   exact ⟨⟨(n11,(s11_0+1),(s11_1++[((((x10.1.getD s11_0 default).Stack).length:Nat):Int)])),l11⟩,Nat.lt_succ_self _,wk⟩
  refine aw_exit ?_
  show ∃_x:(List Int),_=_∧Weak _ _
  exact ⟨s11_1,sj l11,wk⟩
 rcases co j5 with ⟨q5,j5⟩|⟨q5,j5⟩
 ·iterate 9 refine np q5 ?_
  refine s_py q5 (aops_nil ?_)
  exact jx j5 wk
 refine y_mv q5 ?_
 refine y_fd q5 ?_
 refine y_ld q5 ?_
 refine y_mv q5 ?_
 obtain ⟨g16,j5⟩:=ifp_s j5
 refine aops_yes rfl rfl rfl rfl q5 (zaf rfl rfl (idx_eq g16) (idx_lt g16) rfl rfl) (aops_yes rfl rfl rfl rfl q5 (zaM rfl rfl rfl) ?_)
 refine aops_yes rfl rfl rfl rfl q5 (zas rfl rfl rfl) (y_ln q5 ?_)
 refine y_cm q5 ?_
 refine s_pn q5 (aops_nil ?_)
 exact jx j5 wk
end Md
end Go.Proofs.YtclffekkjfhpdaaGreat

