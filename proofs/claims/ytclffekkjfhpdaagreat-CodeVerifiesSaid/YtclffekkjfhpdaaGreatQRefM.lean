import Derived.Test.YtclffekkjfhpdaaGreatQAbsSw
import Derived.Test.YtclffekkjfhpdaaGreatQMo
import Derived.Test.YtclffekkjfhpdaaGreatQTy
import Derived.Test.YtclffekkjfhpdaaGreatQAbsS
import Derived.Test.YtclffekkjfhpdaaGreatQRefC
namespace Go.Proofs.YtclffekkjfhpdaaGreat
open Go.ChangeShapes Go.WideShapes Go.RowKit
open Abs
set_option linter.unusedVariables false
set_option linter.unusedSimpArgs false
set_option maxRecDepth 10000
namespace Md
def c_Bool (x:Bool):List CV:=[cB x]
def zah (x:Actorgridref20Point):List CV:=[cB x.Known,CV.ls c_Int x.Stack,CV.ls c_Bool x.Set]
set_option maxHeartbeats 2000000 in
theorem zeY {k:Nat} {a0:Actorgridref20Point} {a1:List Int} {a2:List Bool} {r:Actorgridref20Point×Bool×Bool} (h:zct k a0 a1 a2=some r):FnC Tryz.prog 54 [.agg (zah a0),.one (CV.ls c_Int a1),.one (CV.ls c_Bool a2)] [] (Det (.tup [.agg (zah r.1),vB r.2.1,vB r.2.2]) []):=by
 unfold zct at h
 refine fn_intro' 67 Tryz.func54 rfl rfl rfl (aw_seq (aw_region (zaa rfl (st_box 0 rfl rfl rfl rfl) ?_)))
 refine zaa rfl (st_alloc (cs:=[cB false,.val (.slice none 0 0),.val (.slice none 0 0)]) 1 rfl rfl rfl rfl rfl) ?_
 iterate 2 refine s_sa ?_
 refine aops_nil (aw_seq (aw_seq (aw_region (s_fd ?_))))
 refine s_ld ?_
 refine s_nt (aops_nil ?_)
 refine aw_if h (fun c1 h=>?_) (fun c1 h=>?_)
 ·refine aw_seq (aw_region (s_mv ?_))
  refine zaa rfl (zac (el:=lsEl c_Bool ([]:List Bool)) 2 rfl rfl rfl rfl rfl rfl rfl rfl (lit_el c_Bool 1 ([]:List Bool) (fun _=>rfl)) rfl) (s_mv ?_)
  obtain ⟨g2,h⟩:=ifp_s h
  refine zaa rfl (st_app_ls (f:=c_Bool) ([]:List Bool) a2 (fun _=>rfl) rfl rfl (.inl rfl) (by omega) (by omega) rfl) ?_
  refine zaa rfl (ev_build' (out:=[_,_,_]) rfl rfl rfl rfl rfl) (s_st [_,_,_] ?_)
  iterate 2 refine s_sa ?_
  refine aops_nil ?_
  cases sj h
  refine aw_freeze 2 rfl ?_
  exact aw_ret ⟨rfl,rv (rn (.cons (va [_,_,_]) (.cons o1 (.cons o1 .nil))))⟩
 refine aw_skip (aw_seq (aw_seq (aw_region (s_fd ?_))))
 refine s_ld ?_
 refine s_mv ?_
 obtain ⟨x3,hx3,h⟩:=bind_s h
 refine zaa rfl (ev_call_v (zbL hx3) rfl [] ai rfl rfl rfl (.inl rfl) rfl) (s_nt (aops_nil ?_))
 refine aw_if h (fun c4 h=>?_) (fun c4 h=>?_)
 ·refine aw_seq (aw_region (s_ls [_,_,_] ?_))
  refine s_st [_,_,_] ?_
  iterate 2 refine s_sa ?_
  refine aops_nil ?_
  cases sj h
  exact aw_ret ⟨rfl,rv (rn (.cons (va [_,_,_]) (.cons o1 (.cons o1 .nil))))⟩
 refine aw_skip (aw_seq (aw_region (s_fd ?_)))
 refine s_ld ?_
 refine zaa rfl (ev_build' (out:=[_,_,_]) rfl rfl rfl rfl rfl) ?_
 refine zaa rfl (st_alloc (cs:=[cB false,.val (.slice none 0 0),.val (.slice none 0 0)]) 2 rfl rfl rfl rfl rfl) (s_st [_,_,_] ?_)
 refine aops_nil (aw_seq (aw_seq (aw_region (s_sa ?_))))
 refine aops_nil (aw_block (zey 2 2 3 4 1 (lsEl c_Bool []) rfl rfl rfl ?_))
 obtain ⟨o5,ho5,h⟩:=bind_s h
 refine aw_loop_x (ι:={p:Nat×Bool×Nat×(List Bool) // zbh k a0 a2 p.1 p.2.1 p.2.2.1 p.2.2.2=some o5}) (fun p=>(⟨67,[],[(2,.one (CV.ls c_Bool a2)),(3,.one (.ptr 0 0)),(6,.one (.ptr 1 0)),(7,vB p.1.2.1),(9,.one (.ptr 2 0)),(10,vI ((p.1.2.2.1:Nat):Int))],[(0,some (.box (zah a0))),(1,some (.box [cB false,.val (.slice none 0 0),.val (.slice none 0 0)])),(2,some (.box [cB true,CV.ls c_Int a0.Stack,.own 3])),(3,some (.row 4 1 p.1.2.2.2.length (lsEl c_Bool p.1.2.2.2)))]⟩:ASt)) (fun p=>p.1.1) ⟨(k,false,0,([]:List Bool)),ho5⟩ wk 0 (ε:=(Bool×(List Bool))) (fun x=>(⟨67,[],[(6,.one (.ptr 1 0)),(7,vB x.1),(9,.one (.ptr 2 0))],[(1,some (.box [cB false,.val (.slice none 0 0),.val (.slice none 0 0)])),(2,some (.box [cB true,CV.ls c_Int a0.Stack,.own 3])),(3,some (.row 4 1 x.2.length (lsEl c_Bool x.2)))]⟩:ASt)) (fun x=>x=o5) (fun _ _ w h=>aw_weak w h) ?_ ?_
 ·intro x5_0 hI5
  subst hI5
  change AW _ _ (⟨67,[],[(6,.one (.ptr 1 0)),(7,vB x5_0.1),(9,.one (.ptr 2 0))],[(1,some (.box [cB false,.val (.slice none 0 0),.val (.slice none 0 0)])),(2,some (.box [cB true,CV.ls c_Int a0.Stack,.own 3])),(3,some (.row 4 1 x5_0.2.length (lsEl c_Bool x5_0.2)))]⟩:ASt) _
  refine aw_seq (aw_region (s_ls [_,_,_] ?_))
  refine s_mv ?_
  refine s_st [_,_,_] ?_
  iterate 2 refine s_sa ?_
  refine aops_nil ?_
  cases sj h
  refine aw_freeze 3 rfl ?_
  exact aw_ret ⟨rfl,rv (rn (.cons (va [_,_,_]) (.cons o1 (.cons o1 .nil))))⟩
 intro p5
 obtain ⟨⟨n5,s5_0,s5_1,s5_2⟩,l5⟩:=p5
 change AW _ _ (⟨67,[],[(2,.one (CV.ls c_Bool a2)),(3,.one (.ptr 0 0)),(6,.one (.ptr 1 0)),(7,vB s5_0),(9,.one (.ptr 2 0)),(10,vI ((s5_1:Nat):Int))],[(0,some (.box (zah a0))),(1,some (.box [cB false,.val (.slice none 0 0),.val (.slice none 0 0)])),(2,some (.box [cB true,CV.ls c_Int a0.Stack,.own 3])),(3,some (.row 4 1 s5_2.length (lsEl c_Bool s5_2)))]⟩:ASt) _
 replace l5:zbh k a0 a2 n5 s5_0 s5_1 s5_2=some o5:=l5
 rcases n5 with _|n5
 ·exact absurd (show none=some o5 from l5) nofun
 rw [zbh] at l5
 refine aw_seq (aw_seq (aw_region ?_))
 iterate 2 refine s_mv ?_
 refine s_ln ?_
 refine s_cm (aops_nil ?_)
 refine aw_if l5 (fun c6 l5=>?_) (fun c6 l5=>?_)
 ·refine aw_skip ?_
  obtain ⟨o7,j7,l5⟩:=bind_s l5
  refine aw_cutE o7 (fun x=>(⟨67,[],[(2,.one (CV.ls c_Bool a2)),(3,.one (.ptr 0 0)),(6,.one (.ptr 1 0)),(7,vB x.1),(9,.one (.ptr 2 0)),(10,vI ((s5_1:Nat):Int))],[(0,some (.box (zah a0))),(1,some (.box [cB false,.val (.slice none 0 0),.val (.slice none 0 0)])),(2,some (.box [cB true,CV.ls c_Int a0.Stack,.own 3])),(3,some (.row 4 1 x.2.length (lsEl c_Bool x.2)))]⟩:ASt)) ?_ ?_
  ·refine aw_region (s_mv ?_)
   obtain ⟨g8,l5⟩:=ifp_s l5
   refine zaa rfl (ev_add rfl rfl rfl (nat_add g8)) (s_sa (aops_nil ?_))
   exact ⟨⟨(n5,o7.1,(s5_1+1),o7.2),l5⟩,Nat.lt_succ_self _,wk⟩
  refine aw_block ?_
  obtain ⟨g9,j7⟩:=ifp_s j7
  rcases co j7 with ⟨q10,j7⟩|⟨q10,j7⟩
  ·obtain ⟨g11,j7⟩:=ifp_s j7
   obtain ⟨g12,j7⟩:=ifp_s j7
   refine aw_seq ?_
   apply aw_draw 14 [ad _,ad _,ad _,ad _,ad _,ad _,ad _,ad _,ad _,ad _,ad _,ad _,ad _,ad _] (by decide) rfl ?hk15x ?hf15x ?ho15x ?hr15x
   case ho15x =>
    refine o_fd 0 ?_
    refine o_ld 1 ?_
    refine o_fd 0 ?_
    refine o_ld 4 ?_
    refine o_mv 0 ?_
    refine obn 28 (fun S hle hfr=>.inl ⟨w0,zaf (hle.e rfl) (hle.e rfl) rfl g9 rfl (hle.d rfl)⟩) ?_
    refine o_li 60 ?_
    refine o_mv 124 ?_
    refine p_mv 252 q10 ?_
    refine p_mv 252 q10 ?_
    refine obn 1020 (fun S hle hfr=>.inl ⟨wy hle q10,zaf (hle.e rfl) (hle.e rfl) rfl g11 rfl (hle.d rfl)⟩) ?_
    refine p_li 2044 q10 ?_
    refine obn 4092 (fun S hle hfr=>.inl ⟨w0,zau (hle.e rfl) (by first|rfl|exact q10) (hle.e rfl) (hle.d rfl)⟩) ?_
    refine obn 8188 (fun S hle hfr=>.inl ⟨w0,zek (el:=lsEl c_Bool [(a2.getD s5_1 default)]) (map_ev2 (.cons (hle.e rfl) (.nil))) rfl rfl rfl rfl rfl rfl (lit_el c_Bool 1 [(a2.getD s5_1 default)] (fun _=>rfl)) (hle.d rfl)⟩) ?_
    exact trivial
   case hk15x=>rfl
   case hf15x=>rfl
   refine zaa rfl (st_app_ls (f:=c_Bool) s5_2 [(a2.getD s5_1 default)] (fun _=>rfl) rfl rfl (.inl rfl) (by omega) (by omega) rfl) (s_fd ?_)
   refine s_st [_,_,_] (aops_nil (aw_region ?_))
   iterate 2 refine s_mv ?_
   obtain ⟨o13,j13,j7⟩:=bind_s j7
   refine aops_cutE 13 o13 (fun x13=>(⟨67,[],[(2,.one (CV.ls c_Bool a2)),(3,.one (.ptr 0 0)),(6,.one (.ptr 1 0)),(7,vB s5_0),(9,.one (.ptr 2 0)),(10,vI ((s5_1:Nat):Int)),(64,vB x13)],[(0,some (.box (zah a0))),(1,some (.box [cB false,.val (.slice none 0 0),.val (.slice none 0 0)])),(2,some (.box [cB true,CV.ls c_Int a0.Stack,.own 3])),(3,some (.row 4 1 (s5_2++[(a2.getD s5_1 default)]).length (lsEl c_Bool (s5_2++[(a2.getD s5_1 default)]))))]⟩:ASt)) ?_ ?_
   ·refine s_sa (aops_nil ?_)
    exact jx j7 wk
   rcases co j13 with ⟨q13,j13⟩|⟨q13,j13⟩
   ·iterate 6 refine np q13 ?_
    iterate 5 refine aops_und rfl rfl rfl rfl rfl ?_
    refine np q13 ?_
    refine s_py q13 (aops_nil ?_)
    exact jx j13 wk
   refine y_fd q13 ?_
   refine y_ld q13 ?_
   refine y_mv q13 ?_
   obtain ⟨g14,j13⟩:=ifp_s j13
   refine aops_yes rfl rfl rfl rfl q13 (zaf rfl rfl rfl g14 rfl rfl) (aops_yes rfl rfl rfl rfl q13 (zas rfl rfl rfl) (y_mv q13 ?_))
   iterate 2 refine y_mv q10 ?_
   obtain ⟨g15,j13⟩:=ifp_s j13
   refine aops_yes rfl rfl rfl rfl q10 (zaf rfl rfl rfl g15 rfl rfl) (aops_yes rfl rfl rfl rfl q10 (zas rfl rfl rfl) (y_nt q10 ?_))
   refine aops_yes rfl rfl rfl rfl q13 (zau rfl (by first|rfl|exact q10) rfl rfl) (s_pn q13 (aops_nil ?_))
   exact jx j13 wk
  obtain ⟨g16,j7⟩:=ifp_s j7
  refine aw_seq ?_
  apply aw_draw 14 [ad _,ad _,ad _,ad _,ad _,ad _,ad _,ad _,ad _,ad _,ad _,ad _,ad _,ad _] (by decide) rfl ?hk16x ?hf16x ?ho16x ?hr16x
  case ho16x =>
   refine o_fd 0 ?_
   refine o_ld 1 ?_
   refine o_fd 0 ?_
   refine o_ld 4 ?_
   refine o_mv 0 ?_
   refine obn 28 (fun S hle hfr=>.inl ⟨w0,zaf (hle.e rfl) (hle.e rfl) rfl g9 rfl (hle.d rfl)⟩) ?_
   refine o_li 60 ?_
   refine o_mv 124 ?_
   refine on 252 q10 ?_
   refine on 252 q10 ?_
   refine on 1020 q10 ?_
   refine on 2044 q10 ?_
   refine obn 4092 (fun S hle hfr=>.inl ⟨w0,zaz (hle.e rfl) (by first|rfl|exact q10) (hle.e rfl) (hle.d rfl)⟩) ?_
   refine obn 8188 (fun S hle hfr=>.inl ⟨w0,zek (el:=lsEl c_Bool [false]) (map_ev2 (.cons (hle.e rfl) (.nil))) rfl rfl rfl rfl rfl rfl (lit_el c_Bool 1 [false] (fun _=>rfl)) (hle.d rfl)⟩) ?_
   exact trivial
  case hk16x=>rfl
  case hf16x=>rfl
  refine zaa rfl (st_app_ls (f:=c_Bool) s5_2 [false] (fun _=>rfl) rfl rfl (.inl rfl) (by omega) (by omega) rfl) (s_fd ?_)
  refine s_st [_,_,_] (aops_nil (aw_region ?_))
  iterate 2 refine s_mv ?_
  obtain ⟨o17,j17,j7⟩:=bind_s j7
  refine aops_cutE 13 o17 (fun x17=>(⟨67,[],[(2,.one (CV.ls c_Bool a2)),(3,.one (.ptr 0 0)),(6,.one (.ptr 1 0)),(7,vB s5_0),(9,.one (.ptr 2 0)),(10,vI ((s5_1:Nat):Int)),(64,vB x17)],[(0,some (.box (zah a0))),(1,some (.box [cB false,.val (.slice none 0 0),.val (.slice none 0 0)])),(2,some (.box [cB true,CV.ls c_Int a0.Stack,.own 3])),(3,some (.row 4 1 (s5_2++[false]).length (lsEl c_Bool (s5_2++[false]))))]⟩:ASt)) ?_ ?_
  ·refine s_sa (aops_nil ?_)
   exact jx j7 wk
  rcases co j17 with ⟨q17,j17⟩|⟨q17,j17⟩
  ·iterate 6 refine np q17 ?_
   iterate 5 refine aops_und rfl rfl rfl rfl rfl ?_
   refine np q17 ?_
   refine s_py q17 (aops_nil ?_)
   exact jx j17 wk
  refine y_fd q17 ?_
  refine y_ld q17 ?_
  refine y_mv q17 ?_
  obtain ⟨g18,j17⟩:=ifp_s j17
  refine aops_yes rfl rfl rfl rfl q17 (zaf rfl rfl rfl g18 rfl rfl) (aops_yes rfl rfl rfl rfl q17 (zas rfl rfl rfl) (y_mv q17 ?_))
  iterate 5 refine np q10 ?_
  refine aops_yes rfl rfl rfl rfl q17 (zaz rfl (by first|rfl|exact q10) rfl rfl) (s_pn q17 (aops_nil ?_))
  exact jx j17 wk
 refine aw_exit ?_
 show ∃_x:Bool×(List Bool),_=_∧Weak _ _
 exact ⟨(s5_0,s5_2),sj l5,wk⟩
end Md
end Go.Proofs.YtclffekkjfhpdaaGreat

