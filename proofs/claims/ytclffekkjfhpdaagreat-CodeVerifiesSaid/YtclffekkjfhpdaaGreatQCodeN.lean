import Derived.Test.YtclffekkjfhpdaaGreatQAbsSw
import Derived.Test.YtclffekkjfhpdaaGreatQMo
import Derived.Test.YtclffekkjfhpdaaGreatQTy
import Derived.Test.YtclffekkjfhpdaaGreatQAbsS
import Derived.Test.YtclffekkjfhpdaaGreatQCodeC
import Derived.Test.YtclffekkjfhpdaaGreatQCodeK
namespace Go.Proofs.YtclffekkjfhpdaaGreat
open Go.ChangeShapes Go.WideShapes Go.RowKit
open Abs
set_option linter.unusedVariables false
set_option linter.unusedSimpArgs false
set_option maxRecDepth 10000
namespace Md
set_option maxHeartbeats 2000000 in
theorem zdn {k:Nat} {a0:Code} {r:Int} (h:zdd k a0=some r):FnC Tryz.prog 6 [.agg [CV.ls zab a0.Types]] [] (Det (vI r) []):=by
 unfold zdd at h
 refine fn_intro' 37 Tryz.func6 rfl rfl rfl (aw_seq (aw_region (zaa rfl (st_box 0 rfl rfl rfl rfl) (s_sa ?_))))
 refine aops_nil (aw_seq (aw_seq (aw_region (s_ls [_] ?_))))
 obtain ⟨x1,hx1,h⟩:=bind_s h
 refine zaa rfl (ev_call_v (zem hx1) rfl [] ai rfl rfl rfl (.inl rfl) rfl) (s_nt (aops_nil ?_))
 refine aw_if h (fun c2 h=>?_) (fun c2 h=>?_)
 ·refine aw_seq (aw_region (s_sa (aops_nil ?_)))
  cases sj h
  exact aw_ret ⟨rfl,rv r1⟩
 refine aw_skip (aw_seq (aw_seq (aw_region (s_fd ?_))))
 refine s_ld ?_
 refine s_ln ?_
 refine s_mv (aops_nil (aw_block ?_))
 obtain ⟨o3,ho3,h⟩:=bind_s h
 refine aw_loop_x (ι:={p:Nat×Nat // zbG k a0 p.1 p.2=some o3}) (fun p=>(⟨37,[],[(1,.one (.ptr 0 0)),(13,.one (CV.ls zab a0.Types)),(14,vI ((a0.Types.length:Nat):Int)),(15,vI ((p.1.2:Nat):Int))],[(0,some (.box [CV.ls zab a0.Types]))]⟩:ASt)) (fun p=>p.1.1) ⟨(k,0),ho3⟩ wk 0 (ε:=Unit) (fun x=>(⟨37,[],[],[]⟩:ASt)) (fun x=>Sum.inl x=o3) (fun _ _ w h=>aw_weak w h) ?_ ?_
 ·intro x3_0 hI3
  subst hI3
  replace h:=onS_l h
  refine aw_seq (aw_region (s_sa (aops_nil ?_)))
  cases sj h
  exact aw_ret ⟨rfl,rv r1⟩
 intro p3
 obtain ⟨⟨n3,s3_0⟩,l3⟩:=p3
 replace l3:zbG k a0 n3 s3_0=some o3:=l3
 rcases n3 with _|n3
 ·exact absurd (show none=some o3 from l3) nofun
 rw [zbG] at l3
 refine aw_seq (aw_region (s_cm (aops_nil (aw_seq ?_))))
 refine aw_if l3 (fun c4 l3=>?_) (fun c4 l3=>?_)
 ·refine aw_skip ?_
  obtain ⟨o5,j5,l3⟩:=bind_s l3
  refine aw_cut (ε:=Unit) (fun x=>(⟨37,[],[(1,.one (.ptr 0 0)),(13,.one (CV.ls zab a0.Types)),(14,vI ((a0.Types.length:Nat):Int)),(15,vI ((s3_0:Nat):Int))],[(0,some (.box [CV.ls zab a0.Types]))]⟩:ASt)) (fun x=>Sum.inl x=o5) ?_ ?_
  ·intro x5_0 hI5
   subst hI5
   replace l3:=onS_l l3
   refine aw_region ?_
   obtain ⟨g6,l3⟩:=ifp_s l3
   refine zaa rfl (ev_add rfl rfl rfl (nat_add g6)) (s_mv (aops_nil ?_))
   exact ⟨⟨(n3,(s3_0+1)),l3⟩,Nat.lt_succ_self _,wk⟩
  refine aw_block (aw_seq (aw_region ?_))
  obtain ⟨g7,j5⟩:=ifp_s j5
  refine zaa rfl (zaf rfl rfl rfl g7 rfl rfl) (zaa rfl (zaI (ds:=[_,_,_]) rfl rfl rfl rfl) ?_)
  refine zaa rfl (st_alloc (cs:=[.val (Sv []),.val (.slice none 0 0),.val (.slice none 0 0)]) 1 rfl rfl rfl rfl rfl) (s_st [_,_,_] ?_)
  refine aops_nil (aw_seq (aw_region (s_fd ?_)))
  refine s_ld ?_
  refine s_ln ?_
  refine s_mv (aops_nil (aw_block ?_))
  obtain ⟨o8,ho8,j5⟩:=bind_s j5
  refine aw_loop (ι:={p:Nat×Nat // zbF k a0 s3_0 p.1 p.2=some o8}) (fun p=>(⟨37,[],[(1,.one (.ptr 0 0)),(4,.one (.ptr 1 0)),(13,.one (CV.ls zab a0.Types)),(14,vI ((a0.Types.length:Nat):Int)),(15,vI ((s3_0:Nat):Int)),(20,.one (CV.ls zad ((a0.Types.getD s3_0 default).Methods))),(21,vI ((((a0.Types.getD s3_0 default).Methods).length:Nat):Int)),(22,vI ((p.1.2:Nat):Int))],[(0,some (.box [CV.ls zab a0.Types])),(1,some (.box (zab (a0.Types.getD s3_0 default))))]⟩:ASt)) (fun p=>p.1.1) ⟨(k,0),ho8⟩ wk ?_
  intro p8
  obtain ⟨⟨n8,s8_0⟩,l8⟩:=p8
  replace l8:zbF k a0 s3_0 n8 s8_0=some o8:=l8
  rcases n8 with _|n8
  ·exact absurd (show none=some o8 from l8) nofun
  rw [zbF] at l8
  refine aw_seq (aw_region (s_cm (aops_nil (aw_seq ?_))))
  refine aw_if l8 (fun c9 l8=>?_) (fun c9 l8=>?_)
  ·refine aw_skip (aw_seq (aw_block (aw_seq (aw_region ?_))))
   obtain ⟨g10,l8⟩:=ifp_s l8
   refine zaa rfl (zaf rfl rfl rfl g10 rfl rfl) (zaa rfl (zaI (ds:=[_,_,_,_,_]) rfl rfl rfl rfl) ?_)
   refine zaa rfl (st_alloc (cs:=[.val (Sv []),.val (.slice none 0 0),cI 0,.val (.slice none 0 0),.val (.slice none 0 0)]) 2 rfl rfl rfl rfl rfl) (s_st [_,_,_,_,_] ?_)
   refine aops_nil (aw_seq (aw_region (s_ls [_] ?_)))
   refine s_ls [_,_,_] ?_
   refine s_ls [_,_,_,_,_] ?_
   obtain ⟨x11,hx11,l8⟩:=bind_s l8
   refine zaa rfl (ev_call_v (zfr hx11) rfl [] ai rfl rfl rfl (.inl rfl) rfl) (s_mt ?_)
   iterate 2 refine s_ex ?_
   iterate 2 refine s_sa ?_
   refine aops_nil (aw_seq (aw_region (s_mv ?_)))
   refine s_nt (aops_nil ?_)
   refine aw_if l8 (fun c12 l8=>?_) (fun c12 l8=>?_)
   ·refine aw_seq (aw_region (s_sa (aops_nil ?_)))
    cases sj l8
    replace j5:=onS_r j5
    cases sj j5
    replace l3:=onS_r l3
    cases sj l3
    replace h:=onS_r h
    cases sj h
    exact aw_ret ⟨rfl,rv r1⟩
   refine aw_skip (aw_region ?_)
   obtain ⟨g13,l8⟩:=ifp_s l8
   refine zaa rfl (ev_add rfl rfl rfl (nat_add g13)) (s_mv (aops_nil ?_))
   exact ⟨⟨(n8,(s8_0+1)),l8⟩,Nat.lt_succ_self _,wk⟩
  refine aw_exit ?_
  have e8:=sj l8
  subst e8
  replace j5:=onS_l j5
  show ∃_x:Unit,_=_∧Weak _ _
  exact ⟨(),sj j5,wk⟩
 refine aw_exit ?_
 show ∃_x:Unit,_=_∧Weak _ _
 exact ⟨(),sj l3,wk⟩
set_option maxHeartbeats 2000000 in
theorem zgI {k:Nat} {a0:Code} {a1:Int} {a2:Int} {r:(List Bytecodestate)} (h:zcO k a0 a1 a2=some r):FnC Tryz.prog 20 [.agg [CV.ls zab a0.Types],vI a1,vI a2] [] (Det (.one (CV.ls zbJ r)) []):=by
 unfold zcO at h
 refine fn_intro' 58 Tryz.func20 rfl rfl rfl (aw_seq (aw_region (zaa rfl (st_box 0 rfl rfl rfl rfl) (s_sa ?_))))
 refine aops_nil (aw_seq (aw_seq (aw_region (s_ls [_] ?_))))
 obtain ⟨x1,hx1,h⟩:=bind_s h
 refine zaa rfl (ev_call_v (zdn hx1) rfl [] ai rfl rfl rfl (.inl rfl) rfl) (s_cm ?_)
 refine s_mv ?_
 refine bo 3 ((x1 != 0)||(decide (a1<0))) ?_
 refine s_mv ?_
 refine bo 6 (((x1 != 0)||(decide (a1<0)))||(decide (a1≥((a0.Types.length:Nat):Int)))) ?_
 refine s_mv ?_
 refine bo 3 ((((x1 != 0)||(decide (a1<0)))||(decide (a1≥((a0.Types.length:Nat):Int))))||(decide (a2<0))) ?_
 refine s_mv ?_
 obtain ⟨o5,j5,h⟩:=bind_s h
 refine aops_cutE 10 o5 (fun x5=>(⟨58,[],[(1,vI a1),(2,vI a2),(3,.one (.ptr 0 0)),(37,vB x5)],[(0,some (.box [CV.ls zab a0.Types]))]⟩:ASt)) ?_ ?_
 ·refine aops_nil ?_
  refine aw_if h (fun c6 h=>?_) (fun c6 h=>?_)
  ·refine aw_seq (aw_region (s_sa (aops_nil ?_)))
   cases sj h
   exact aw_ret ⟨rfl,rv r1⟩
  refine aw_skip ?_
  obtain ⟨g7,h⟩:=ifp_s h
  obtain ⟨g8,h⟩:=ifp_s h
  obtain ⟨g9,h⟩:=ifp_s h
  obtain ⟨x10,hx10,h⟩:=bind_s h
  refine aw_seq ?_
  apply aw_draw 20 [ad _,ad _,ad _,ad _,ad _,ad _,ad _,ad _,ad _,ad _,ad _,ad _,ad _,ad _,ad _,ad _,ad _,ad _,ad _,ad _] (by decide) rfl ?hk1x ?hf1x ?ho1x ?hr1x
  case ho1x =>
   refine obn 0 (fun S hle hfr=>.inl ⟨w0,ev_loads (ds:=[_]) (hle.e rfl) (hle.heap _ _ rfl) rfl rfl (hle.d rfl)⟩) ?_
   refine o_fd 0 ?_
   refine o_ld 2 ?_
   refine o_mv 0 ?_
   refine obn 14 (fun S hle hfr=>.inl ⟨w0,zaf (hle.e rfl) (hle.e rfl) (idx_eq g7) (idx_lt g7) rfl (hle.d rfl)⟩) ?_
   refine obn 30 (fun S hle hfr=>.inl ⟨w0,zaI (ds:=[_,_,_]) (hle.e rfl) rfl rfl (hle.d rfl)⟩) ?_
   refine o_fd 0 ?_
   refine o_ld 64 ?_
   refine o_mv 0 ?_
   refine obn 448 (fun S hle hfr=>.inl ⟨w0,zaf (hle.e rfl) (hle.e rfl) (idx_eq g8) (idx_lt g8) rfl (hle.d rfl)⟩) ?_
   refine o_fi 960 ?_
   refine o_li 1984 ?_
   refine o_mv 0 ?_
   refine obn 8128 (fun S hle hfr=>.inl ⟨w0,zaf (hle.e rfl) (hle.e rfl) (idx_eq g9) (idx_lt g9) rfl (hle.d rfl)⟩) ?_
   refine obn 16320 (fun S hle hfr=>.inl ⟨w0,zaI (ds:=[_,_,_,_,_]) (hle.e rfl) rfl rfl (hle.d rfl)⟩) ?_
   refine obn 32767 (fun S hle hfr=>.inl ⟨w0,ev_call_v (zfr hx10) (map_ev (.cons (hle.e rfl) (.cons (hle.e rfl) (.cons (hle.e rfl) (.nil))))) [] (by repeat' (first|exact .nil|refine .cons ?_ ?_|refine .one ?_|refine .agg ?_|exact .mk rfl|exact .lend (hle.heap _ _ rfl) (by simp)|exact .le (.nil _) rfl|exact .le (.emp _) rfl|exact .le (.any _) rfl|fail)) rfl rfl rfl (.inl rfl) (hle.d rfl)⟩) ?_
   refine o_mt 65535 ?_
   refine o_ex 131071 ?_
   refine o_ex 131071 ?_
   refine o_sa 262143 ?_
   exact trivial
  case hk1x=>rfl
  case hf1x=>rfl
  refine s_sa ?_
  refine aops_nil (aw_seq (aw_region (s_mv ?_)))
  refine s_sa (aops_nil ?_)
  cases sj h
  exact aw_ret ⟨rfl,rv r1⟩
 rcases co j5 with ⟨q5,j5⟩|⟨q5,j5⟩
 ·iterate 9 refine np q5 ?_
  refine s_py q5 (aops_nil ?_)
  exact jx j5 wk
 refine y_mv q5 ?_
 refine y_fd q5 ?_
 refine y_ld q5 ?_
 refine y_mv q5 ?_
 obtain ⟨g11,j5⟩:=ifp_s j5
 refine aops_yes rfl rfl rfl rfl q5 (zaf rfl rfl (idx_eq g11) (idx_lt g11) rfl rfl) (aops_yes rfl rfl rfl rfl q5 (zaM rfl rfl rfl) ?_)
 refine aops_yes rfl rfl rfl rfl q5 (zas rfl rfl rfl) (y_ln q5 ?_)
 refine y_cm q5 ?_
 refine s_pn q5 (aops_nil ?_)
 exact jx j5 wk
set_option maxHeartbeats 2000000 in
theorem zgb {k:Nat} {a0:Code} {a1:Int} {a2:Int} {r:(List Int)} (h:zde k a0 a1 a2=some r):FnC Tryz.prog 9 [.agg [CV.ls zab a0.Types],vI a1,vI a2] [] (Det (.one (.own 0)) [(0,some (.row 3 1 r.length (lsEl c_Int r)))]):=by
 unfold zde at h
 refine fn_intro' 27 Tryz.func9 rfl rfl rfl (aw_seq (aw_region (zaa rfl (st_box 0 rfl rfl rfl rfl) (s_sa ?_))))
 refine aops_nil (aw_seq (aw_region (s_sa ?_)))
 refine aops_nil (aw_seq (aw_seq (aw_region (s_ls [_] ?_))))
 iterate 2 refine s_mv ?_
 obtain ⟨x1,hx1,h⟩:=bind_s h
 refine zaa rfl (ev_call_v (zgI hx1) rfl [] ai rfl rfl rfl (.inl rfl) rfl) (s_ln ?_)
 refine s_mv ?_
 refine aops_nil (aw_block (zfl 7 1 3 1 (lsEl c_Int []) rfl rfl ?_))
 obtain ⟨o2,ho2,h⟩:=bind_s h
 refine aw_loop_x (ι:={p:Nat×Nat×(List Int) // zcw k x1 p.1 p.2.1 p.2.2=some o2}) (fun p=>(⟨27,[],[(7,.one (.own 1)),(13,.one (CV.ls zbJ x1)),(14,vI ((x1.length:Nat):Int)),(15,vI ((p.1.2.1:Nat):Int))],[(1,some (.row 3 1 p.1.2.2.length (lsEl c_Int p.1.2.2)))]⟩:ASt)) (fun p=>p.1.1) ⟨(k,0,([]:List Int)),ho2⟩ wk 0 (ε:=(List Int)) (fun x=>(⟨27,[],[(7,.one (.own 1))],[(1,some (.row 3 1 x.length (lsEl c_Int x)))]⟩:ASt)) (fun x=>x=o2) (fun _ _ w h=>aw_weak w h) ?_ ?_
 ·intro x2_0 hI2
  subst hI2
  refine aw_seq (aw_region (s_mv ?_))
  refine s_sa (aops_nil ?_)
  cases sj h
  refine aw_ret ⟨rfl,ret_r 1 r1 rfl rfl rfl ?_ ?_ ?_⟩
  ·first|exact TLe.refl _|(repeat' (first|exact .refl _|exact .nil|refine .tup ?_|refine .v ?_|refine .cons ?_ ?_|refine .agg ?_|refine .one ?_|exact .nil _|exact .emp _|refine .val ?_|refine .slc ?_ ?_|fail))
  ·rfl
  ·rfl
 intro p2
 obtain ⟨⟨n2,s2_0,s2_1⟩,l2⟩:=p2
 replace l2:zcw k x1 n2 s2_0 s2_1=some o2:=l2
 rcases n2 with _|n2
 ·exact absurd (show none=some o2 from l2) nofun
 rw [zcw] at l2
 refine aw_seq (aw_region (s_cm (aops_nil (aw_seq ?_))))
 refine aw_if l2 (fun c3 l2=>?_) (fun c3 l2=>?_)
 ·refine aw_skip (aw_seq (aw_block (aw_seq (aw_region ?_))))
  obtain ⟨g4,l2⟩:=ifp_s l2
  refine zaa rfl (zaf rfl rfl rfl g4 rfl rfl) (zaa rfl (zaI (ds:=[_,_,_]) rfl rfl rfl rfl) ?_)
  refine zaa rfl (st_alloc (cs:=[cB false,.val (.slice none 0 0),.val (.int .u64 0)]) 2 rfl rfl rfl rfl rfl) (s_st [_,_,_] ?_)
  refine aops_nil (aw_region (s_mv ?_))
  refine s_fd ?_
  refine s_ld ?_
  refine s_ln ?_
  refine zaa rfl (zac (el:=lsEl c_Int [((((x1.getD s2_0 default).stack).length:Nat):Int)]) 3 rfl rfl rfl rfl rfl rfl rfl rfl (lit_el c_Int 1 [((((x1.getD s2_0 default).stack).length:Nat):Int)] (fun _=>rfl)) rfl) ?_
  obtain ⟨g5,l2⟩:=ifp_s l2
  refine zaa rfl (st_app_ls (f:=c_Int) s2_1 [((((x1.getD s2_0 default).stack).length:Nat):Int)] (fun _=>rfl) rfl rfl (.inr ⟨_,_,rfl,rfl⟩) (by omega) (by omega) rfl) (s_sa (aops_nil (aw_region ?_)))
  obtain ⟨g6,l2⟩:=ifp_s l2
  refine zaa rfl (ev_add rfl rfl rfl (nat_add g6)) (s_mv (aops_nil ?_))
  exact ⟨⟨(n2,(s2_0+1),(s2_1++[((((x1.getD s2_0 default).stack).length:Nat):Int)])),l2⟩,Nat.lt_succ_self _,wk⟩
 refine aw_exit ?_
 show ∃_x:(List Int),_=_∧Weak _ _
 exact ⟨s2_1,sj l2,wk⟩
end Md
end Go.Proofs.YtclffekkjfhpdaaGreat

