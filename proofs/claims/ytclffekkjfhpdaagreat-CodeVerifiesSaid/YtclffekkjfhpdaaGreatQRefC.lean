import Derived.Test.YtclffekkjfhpdaaGreatQAbsSw
import Derived.Test.YtclffekkjfhpdaaGreatQMo
import Derived.Test.YtclffekkjfhpdaaGreatQTy
import Derived.Test.YtclffekkjfhpdaaGreatQAbsS
import Derived.Test.YtclffekkjfhpdaaGreatQRefA
namespace Go.Proofs.YtclffekkjfhpdaaGreat
open Go.ChangeShapes Go.WideShapes Go.RowKit
open Abs
set_option linter.unusedVariables false
set_option linter.unusedSimpArgs false
set_option maxRecDepth 10000
namespace Md
def zdy (x:Actorgridref20Effect):List CV:=[cI x.Takes,CV.ls c_Int x.Puts,cB x.OK]
set_option maxHeartbeats 2000000 in
theorem zbO {k:Nat} {a0:List Int} {a1:List Int} {r:Bool} (h:zbw k a0 a1=some r):FnC Tryz.prog 89 [.one (CV.ls c_Int a0),.one (CV.ls c_Int a1)] [] (Det (vB r) []):=by
 unfold zbw at h
 refine fn_intro' 21 Tryz.func89 rfl rfl rfl (aw_seq (aw_region (s_sa ?_)))
 refine aops_nil (aw_seq (aw_region (s_mv ?_)))
 refine s_ln ?_
 refine s_mv ?_
 refine s_ln ?_
 refine s_cm ?_
 refine s_mv ?_
 obtain ⟨o1,j1,h⟩:=bind_s h
 refine aops_cutE 10 o1 (fun x1=>(⟨21,[],[(4,vB false),(20,vB x1)],[]⟩:ASt)) ?_ ?_
 ·refine s_sa (aops_nil ?_)
  cases sj h
  exact aw_ret ⟨rfl,rv r1⟩
 rcases co j1 with ⟨q1,j1⟩|⟨q1,j1⟩
 ·iterate 2 refine y_mv q1 ?_
  refine y_ln q1 ?_
  refine y_mv q1 ?_
  refine y_ln q1 ?_
  refine aops_yes rfl rfl rfl rfl q1 (ev_sub rfl rfl rfl (wrap_W _)) ?_
  obtain ⟨g2,j1⟩:=ifp_s j1
  obtain ⟨g3,j1⟩:=ifp_s j1
  refine aops_yes rfl rfl rfl rfl q1 (st_cut_lo (f:=c_Int) (fun _=>rfl) rfl ⟨_,_,rfl,(nn_eq g2)⟩ g3 rfl) (y_mv q1 ?_)
  obtain ⟨x4,hx4,j1⟩:=bind_s j1
  refine aops_yes rfl rfl rfl rfl q1 (ev_call_v (zbL hx4) rfl [] ai rfl rfl rfl (.inl rfl) rfl) (s_py q1 (aops_nil ?_))
  exact jx j1 wk
 iterate 9 refine np q1 ?_
 refine s_pn q1 (aops_nil ?_)
 exact jx j1 wk
set_option maxHeartbeats 2000000 in
theorem zai {k:Nat} {a0:List Int} {a1:List Int} {a2:List Int} {r:Actorgridref20Effect} (h:zak k a0 a1 a2=some r):FnC Tryz.prog 87 [.one (CV.ls c_Int a0),.one (CV.ls c_Int a1),.one (CV.ls c_Int a2)] [] (Det (.agg (zdy r)) []):=by
 unfold zak at h
 refine fn_intro' 14 Tryz.func87 rfl rfl rfl (aw_seq (aw_region (zaa rfl (st_alloc (cs:=[cI 0,.val (.slice none 0 0),cB false]) 0 rfl rfl rfl rfl rfl) ?_)))
 refine aops_nil (aw_seq (aw_region (s_mv ?_)))
 refine s_ln ?_
 iterate 3 refine s_mv ?_
 obtain ⟨x1,hx1,h⟩:=bind_s h
 refine zaa rfl (ev_call_v (zbO hx1) rfl [] ai rfl rfl rfl (.inl rfl) rfl) ?_
 refine zaa rfl (ev_build' (out:=[_,_,_]) rfl rfl rfl rfl rfl) (s_st [_,_,_] (aops_nil ?_))
 cases sj h
 exact aw_ret ⟨rfl,rv (rg [_,_,_])⟩
set_option maxHeartbeats 2000000 in
theorem zbZ {k:Nat} {a0:List Int} {a1:Int} {r:Int} (h:zaS k a0 a1=some r):FnC Tryz.prog 88 [.one (CV.ls c_Int a0),vI a1] [] (Det (vI r) []):=by
 unfold zaS at h
 refine fn_intro' 17 Tryz.func88 rfl rfl rfl (aw_seq (aw_region (s_sa ?_)))
 refine aops_nil (aw_seq (aw_seq (aw_region ?_)))
 iterate 2 refine s_mv ?_
 refine s_ln ?_
 refine s_cm (aops_nil ?_)
 refine aw_if h (fun c1 h=>?_) (fun c1 h=>?_)
 ·refine aw_seq (aw_region (s_sa (aops_nil ?_)))
  cases sj h
  exact aw_ret ⟨rfl,rv r1⟩
 refine aw_skip (aw_seq (aw_region ?_))
 iterate 2 refine s_mv ?_
 refine s_ln ?_
 refine zaa rfl (ev_sub rfl rfl rfl (wrap_W _)) (s_mv ?_)
 refine zaa rfl (ev_sub rfl rfl rfl (wrap_W _)) ?_
 obtain ⟨g2,h⟩:=ifp_s h
 refine zaa rfl (zaf rfl rfl (idx_eq g2) (idx_lt g2) rfl rfl) (zaa rfl (zas rfl rfl rfl) (s_sa (aops_nil ?_)))
 cases sj h
 exact aw_ret ⟨rfl,rv r1⟩
set_option maxHeartbeats 2000000 in
theorem zeW {k:Nat} {a0:Int} {a1:Int} {r:(List Int)} (h:zcs k a0 a1=some r):FnC Tryz.prog 90 [vI a0,vI a1] [] (Det (.one (.own 0)) [(0,some (.row 3 1 r.length (lsEl c_Int r)))]):=by
 unfold zcs at h
 refine fn_intro' 17 Tryz.func90 rfl rfl rfl (aw_seq (aw_region (s_sa ?_)))
 refine aops_nil (aw_seq (aw_region (s_sa ?_)))
 refine aops_nil (aw_seq (aw_seq (aw_region (s_sa ?_))))
 refine aops_nil (aw_block (zfl 5 0 3 1 (lsEl c_Int []) rfl rfl ?_))
 obtain ⟨o1,ho1,h⟩:=bind_s h
 refine aw_loop_x (ι:={p:Nat×Nat×(List Int) // zbU k a0 a1 p.1 p.2.1 p.2.2=some o1}) (fun p=>(⟨17,[],[(0,vI a0),(1,vI a1),(5,.one (.own 0)),(6,vI ((p.1.2.1:Nat):Int))],[(0,some (.row 3 1 p.1.2.2.length (lsEl c_Int p.1.2.2)))]⟩:ASt)) (fun p=>p.1.1) ⟨(k,0,([]:List Int)),ho1⟩ wk 0 (ε:=(List Int)) (fun x=>(⟨17,[],[(5,.one (.own 0))],[(0,some (.row 3 1 x.length (lsEl c_Int x)))]⟩:ASt)) (fun x=>x=o1) (fun _ _ w h=>aw_weak w h) ?_ ?_
 ·intro x1_0 hI1
  subst hI1
  refine aw_seq (aw_region (s_mv ?_))
  refine s_sa (aops_nil ?_)
  cases sj h
  refine aw_ret ⟨rfl,ret_r 0 r1 rfl rfl rfl ?_ ?_ ?_⟩
  ·first|exact TLe.refl _|(repeat' (first|exact .refl _|exact .nil|refine .tup ?_|refine .v ?_|refine .cons ?_ ?_|refine .agg ?_|refine .one ?_|exact .nil _|exact .emp _|refine .val ?_|refine .slc ?_ ?_|fail))
  ·rfl
  ·rfl
 intro p1
 obtain ⟨⟨n1,s1_0,s1_1⟩,l1⟩:=p1
 replace l1:zbU k a0 a1 n1 s1_0 s1_1=some o1:=l1
 rcases n1 with _|n1
 ·exact absurd (show none=some o1 from l1) nofun
 rw [zbU] at l1
 refine aw_seq (aw_seq (aw_region ?_))
 iterate 2 refine s_mv ?_
 refine s_cm (aops_nil ?_)
 refine aw_if l1 (fun c2 l1=>?_) (fun c2 l1=>?_)
 ·refine aw_skip (aw_seq (aw_block (aw_region ?_)))
  iterate 2 refine s_mv ?_
  refine zaa rfl (zac (el:=lsEl c_Int [a0]) 1 rfl rfl rfl rfl rfl rfl rfl rfl (lit_el c_Int 1 [a0] (fun _=>rfl)) rfl) ?_
  obtain ⟨g3,l1⟩:=ifp_s l1
  refine zaa rfl (st_app_ls (f:=c_Int) s1_1 [a0] (fun _=>rfl) rfl rfl (.inr ⟨_,_,rfl,rfl⟩) (by omega) (by omega) rfl) (s_sa ?_)
  refine aops_nil (aw_region (s_mv ?_))
  obtain ⟨g4,l1⟩:=ifp_s l1
  refine zaa rfl (ev_add rfl rfl rfl (nat_add g4)) (s_sa (aops_nil ?_))
  exact ⟨⟨(n1,(s1_0+1),(s1_1++[a0])),l1⟩,Nat.lt_succ_self _,wk⟩
 refine aw_exit ?_
 show ∃_x:(List Int),_=_∧Weak _ _
 exact ⟨s1_1,sj l1,wk⟩
set_option maxHeartbeats 2000000 in
theorem zfW {k:Nat} {a0:Code} {a1:CodeType} {a2:CodeMethod} {a3:Instr} {a4:List Int} {r:Actorgridref20Effect} (h:zag k a0 a1 a2 a3 a4=some r):FnC Tryz.prog 52 [.agg [CV.ls zab a0.Types],.agg (zab a1),.agg (zad a2),.agg (c_Instr a3),.one (CV.ls c_Int a4)] [] (Det (.agg (zdy r)) []):=by
 unfold zag at h
 refine fn_intro' 345 Tryz.func52 rfl rfl rfl (aw_seq (aw_region (zaa rfl (st_box 0 rfl rfl rfl rfl) (zaa rfl (st_box 1 rfl rfl rfl rfl) ?_))))
 refine zaa rfl (st_box 2 rfl rfl rfl rfl) (zaa rfl (st_box 3 rfl rfl rfl rfl) ?_)
 refine zaa rfl (st_alloc (cs:=[cI 0,.val (.slice none 0 0),cB false]) 4 rfl rfl rfl rfl rfl) (aops_nil (aw_seq (aw_region ?_)))
 iterate 3 refine s_sa ?_
 refine aops_nil (aw_seq (aw_seq (aw_region (s_fd ?_))))
 refine s_ld ?_
 refine aops_nil (aw_block (aw_seq (aw_region (s_cm ?_))))
 refine s_sa (aops_nil ?_)
 refine aw_if h (fun c1 h=>?_) (fun c1 h=>?_)
 ·refine aw_seq (aw_region (s_mv ?_))
  iterate 2 refine s_fd ?_
  refine s_ld ?_
  refine zaa rfl (zac (el:=lsEl c_Int [a3.Value.Kind]) 5 rfl rfl rfl rfl rfl rfl rfl rfl (lit_el c_Int 1 [a3.Value.Kind] (fun _=>rfl)) rfl) ?_
  obtain ⟨x2,hx2,h⟩:=bind_s h
  refine zae 5 rfl (zaa rfl (ev_call_v (zai hx2) rfl [] ai rfl rfl rfl (.inl rfl) rfl) (s_st [_,_,_] (aops_nil ?_)))
  cases sj h
  exact aw_ret ⟨rfl,rv (rg [_,_,_])⟩
 refine aw_seq (aw_region (s_cm ?_))
 refine s_sa (aops_nil ?_)
 refine aw_if h (fun c3 h=>?_) (fun c3 h=>?_)
 ·refine aw_seq (aw_region (s_mv ?_))
  refine s_fd ?_
  refine s_ld ?_
  refine s_fd ?_
  refine s_ld ?_
  obtain ⟨g4,h⟩:=ifp_s h
  refine zaa rfl (zaf rfl rfl (idx_eq g4) (idx_lt g4) rfl rfl) (zaa rfl (zas rfl rfl rfl) ?_)
  refine zaa rfl (zac (el:=lsEl c_Int [(a2.Locals.getD ((a3.A).toNat) default)]) 5 rfl rfl rfl rfl rfl rfl rfl rfl (lit_el c_Int 1 [(a2.Locals.getD ((a3.A).toNat) default)] (fun _=>rfl)) rfl) ?_
  obtain ⟨x5,hx5,h⟩:=bind_s h
  refine zae 5 rfl (zaa rfl (ev_call_v (zai hx5) rfl [] ai rfl rfl rfl (.inl rfl) rfl) (s_st [_,_,_] (aops_nil ?_)))
  cases sj h
  exact aw_ret ⟨rfl,rv (rg [_,_,_])⟩
 refine aw_seq (aw_region (s_cm ?_))
 refine s_sa (aops_nil ?_)
 refine aw_if h (fun c6 h=>?_) (fun c6 h=>?_)
 ·refine aw_seq (aw_region (s_mv ?_))
  refine s_fd ?_
  refine s_ld ?_
  refine s_fd ?_
  refine s_ld ?_
  obtain ⟨g7,h⟩:=ifp_s h
  refine zaa rfl (zaf rfl rfl (idx_eq g7) (idx_lt g7) rfl rfl) (zaa rfl (zaM rfl rfl rfl) ?_)
  refine zaa rfl (zas rfl rfl rfl) ?_
  refine zaa rfl (zac (el:=lsEl c_Int [((a1.Fields.getD ((a3.A).toNat) default).Kind)]) 5 rfl rfl rfl rfl rfl rfl rfl rfl (lit_el c_Int 1 [((a1.Fields.getD ((a3.A).toNat) default).Kind)] (fun _=>rfl)) rfl) ?_
  obtain ⟨x8,hx8,h⟩:=bind_s h
  refine zae 5 rfl (zaa rfl (ev_call_v (zai hx8) rfl [] ai rfl rfl rfl (.inl rfl) rfl) (s_st [_,_,_] (aops_nil ?_)))
  cases sj h
  exact aw_ret ⟨rfl,rv (rg [_,_,_])⟩
 refine aw_seq (aw_region (s_cm ?_))
 refine s_sa (aops_nil ?_)
 refine aw_if h (fun c9 h=>?_) (fun c9 h=>?_)
 ·refine aw_seq (aw_region (s_mv ?_))
  refine s_fd ?_
  refine s_ld ?_
  refine s_fd ?_
  refine s_ld ?_
  obtain ⟨g10,h⟩:=ifp_s h
  refine zaa rfl (zaf rfl rfl (idx_eq g10) (idx_lt g10) rfl rfl) (zaa rfl (zas rfl rfl rfl) ?_)
  refine zaa rfl (zac (el:=lsEl c_Int [(a2.Locals.getD ((a3.A).toNat) default)]) 5 rfl rfl rfl rfl rfl rfl rfl rfl (lit_el c_Int 1 [(a2.Locals.getD ((a3.A).toNat) default)] (fun _=>rfl)) rfl) ?_
  obtain ⟨x11,hx11,h⟩:=bind_s h
  refine zae 5 rfl (zaa rfl (ev_call_v (zai hx11) rfl [] ai rfl rfl rfl (.inl rfl) rfl) (s_st [_,_,_] (aops_nil ?_)))
  cases sj h
  exact aw_ret ⟨rfl,rv (rg [_,_,_])⟩
 refine aw_seq (aw_region (s_cm ?_))
 refine s_sa (aops_nil ?_)
 refine aw_if h (fun c12 h=>?_) (fun c12 h=>?_)
 ·refine aw_seq (aw_region (s_mv ?_))
  refine s_fd ?_
  refine s_ld ?_
  refine s_fd ?_
  refine s_ld ?_
  obtain ⟨g13,h⟩:=ifp_s h
  refine zaa rfl (zaf rfl rfl (idx_eq g13) (idx_lt g13) rfl rfl) (zaa rfl (zaM rfl rfl rfl) ?_)
  refine zaa rfl (zas rfl rfl rfl) ?_
  refine zaa rfl (zac (el:=lsEl c_Int [((a1.Fields.getD ((a3.A).toNat) default).Kind)]) 5 rfl rfl rfl rfl rfl rfl rfl rfl (lit_el c_Int 1 [((a1.Fields.getD ((a3.A).toNat) default).Kind)] (fun _=>rfl)) rfl) ?_
  obtain ⟨x14,hx14,h⟩:=bind_s h
  refine zae 5 rfl (zaa rfl (ev_call_v (zai hx14) rfl [] ai rfl rfl rfl (.inl rfl) rfl) (s_st [_,_,_] (aops_nil ?_)))
  cases sj h
  exact aw_ret ⟨rfl,rv (rg [_,_,_])⟩
 refine aw_seq (aw_region (s_cm ?_))
 refine s_sa (aops_nil ?_)
 refine aw_if h (fun c15 h=>?_) (fun c15 h=>?_)
 ·refine aw_seq (aw_region ?_)
  iterate 2 refine s_mv ?_
  refine zaa rfl (zac (el:=lsEl c_Int [3]) 5 rfl rfl rfl rfl rfl rfl rfl rfl (lit_el c_Int 1 [3] (fun _=>rfl)) rfl) ?_
  obtain ⟨x16,hx16,h⟩:=bind_s h
  refine zae 5 rfl (zaa rfl (ev_call_v (zai hx16) rfl [] ai rfl rfl rfl (.inl rfl) rfl) (s_st [_,_,_] (aops_nil ?_)))
  cases sj h
  exact aw_ret ⟨rfl,rv (rg [_,_,_])⟩
 refine aw_seq (aw_region (s_cm ?_))
 refine s_sa (aops_nil ?_)
 refine aw_if h (fun c17 h=>?_) (fun c17 h=>?_)
 ·refine aw_seq (aw_region ?_)
  iterate 2 refine s_mv ?_
  refine zaa rfl (zac (el:=lsEl c_Int [1]) 5 rfl rfl rfl rfl rfl rfl rfl rfl (lit_el c_Int 1 [1] (fun _=>rfl)) rfl) (s_mv ?_)
  refine zaa rfl (zac (el:=lsEl c_Int [1]) 6 rfl rfl rfl rfl rfl rfl rfl rfl (lit_el c_Int 1 [1] (fun _=>rfl)) rfl) ?_
  obtain ⟨x18,hx18,h⟩:=bind_s h
  refine zae 5 rfl (zae 6 rfl (zaa rfl (ev_call_v (zai hx18) rfl [] ai rfl rfl rfl (.inl rfl) rfl) (s_st [_,_,_] (aops_nil ?_))))
  cases sj h
  exact aw_ret ⟨rfl,rv (rg [_,_,_])⟩
 refine aw_seq (aw_region (s_cm ?_))
 refine s_sa (aops_nil ?_)
 refine aw_if h (fun c19 h=>?_) (fun c19 h=>?_)
 ·refine aw_seq (aw_region ?_)
  iterate 2 refine s_mv ?_
  refine zaa rfl (zac (el:=lsEl c_Int [2]) 5 rfl rfl rfl rfl rfl rfl rfl rfl (lit_el c_Int 1 [2] (fun _=>rfl)) rfl) (s_mv ?_)
  refine zaa rfl (zac (el:=lsEl c_Int [2]) 6 rfl rfl rfl rfl rfl rfl rfl rfl (lit_el c_Int 1 [2] (fun _=>rfl)) rfl) ?_
  obtain ⟨x20,hx20,h⟩:=bind_s h
  refine zae 5 rfl (zae 6 rfl (zaa rfl (ev_call_v (zai hx20) rfl [] ai rfl rfl rfl (.inl rfl) rfl) (s_st [_,_,_] (aops_nil ?_))))
  cases sj h
  exact aw_ret ⟨rfl,rv (rg [_,_,_])⟩
 refine aw_seq (aw_seq (aw_region (s_cm ?_)))
 refine s_sa (aops_nil ?_)
 refine aw_if h (fun c21 h=>?_) (fun c21 h=>?_)
 ·refine aw_skip (aw_yes rfl (c21) (aw_seq (aw_region ?_)))
  iterate 3 refine s_mv ?_
  refine zaa rfl (zac (el:=lsEl c_Int [1,1]) 5 rfl rfl rfl rfl rfl rfl rfl rfl (lit_el c_Int 1 [1,1] (fun _=>rfl)) rfl) (s_mv ?_)
  refine zaa rfl (zac (el:=lsEl c_Int [1]) 6 rfl rfl rfl rfl rfl rfl rfl rfl (lit_el c_Int 1 [1] (fun _=>rfl)) rfl) ?_
  obtain ⟨x22,hx22,h⟩:=bind_s h
  refine zae 5 rfl (zae 6 rfl (zaa rfl (ev_call_v (zai hx22) rfl [] ai rfl rfl rfl (.inl rfl) rfl) (s_st [_,_,_] (aops_nil ?_))))
  cases sj h
  exact aw_ret ⟨rfl,rv (rg [_,_,_])⟩
 refine aw_seq (aw_region (s_cm ?_))
 refine s_sa (aops_nil ?_)
 refine aw_if h (fun c23 h=>?_) (fun c23 h=>?_)
 ·refine aw_skip (aw_yes rfl (c23) (aw_seq (aw_region ?_)))
  iterate 3 refine s_mv ?_
  refine zaa rfl (zac (el:=lsEl c_Int [1,1]) 5 rfl rfl rfl rfl rfl rfl rfl rfl (lit_el c_Int 1 [1,1] (fun _=>rfl)) rfl) (s_mv ?_)
  refine zaa rfl (zac (el:=lsEl c_Int [1]) 6 rfl rfl rfl rfl rfl rfl rfl rfl (lit_el c_Int 1 [1] (fun _=>rfl)) rfl) ?_
  obtain ⟨x24,hx24,h⟩:=bind_s h
  refine zae 5 rfl (zae 6 rfl (zaa rfl (ev_call_v (zai hx24) rfl [] ai rfl rfl rfl (.inl rfl) rfl) (s_st [_,_,_] (aops_nil ?_))))
  cases sj h
  exact aw_ret ⟨rfl,rv (rg [_,_,_])⟩
 refine aw_seq (aw_region (s_cm ?_))
 refine s_sa (aops_nil ?_)
 refine aw_if h (fun c25 h=>?_) (fun c25 h=>?_)
 ·refine aw_skip (aw_yes rfl (c25) (aw_seq (aw_region ?_)))
  iterate 3 refine s_mv ?_
  refine zaa rfl (zac (el:=lsEl c_Int [1,1]) 5 rfl rfl rfl rfl rfl rfl rfl rfl (lit_el c_Int 1 [1,1] (fun _=>rfl)) rfl) (s_mv ?_)
  refine zaa rfl (zac (el:=lsEl c_Int [1]) 6 rfl rfl rfl rfl rfl rfl rfl rfl (lit_el c_Int 1 [1] (fun _=>rfl)) rfl) ?_
  obtain ⟨x26,hx26,h⟩:=bind_s h
  refine zae 5 rfl (zae 6 rfl (zaa rfl (ev_call_v (zai hx26) rfl [] ai rfl rfl rfl (.inl rfl) rfl) (s_st [_,_,_] (aops_nil ?_))))
  cases sj h
  exact aw_ret ⟨rfl,rv (rg [_,_,_])⟩
 refine aw_seq (aw_region (s_cm ?_))
 refine s_sa (aops_nil ?_)
 refine aw_if h (fun c27 h=>?_) (fun c27 h=>?_)
 ·refine aw_skip (aw_yes rfl (c27) (aw_seq (aw_region ?_)))
  iterate 3 refine s_mv ?_
  refine zaa rfl (zac (el:=lsEl c_Int [1,1]) 5 rfl rfl rfl rfl rfl rfl rfl rfl (lit_el c_Int 1 [1,1] (fun _=>rfl)) rfl) (s_mv ?_)
  refine zaa rfl (zac (el:=lsEl c_Int [1]) 6 rfl rfl rfl rfl rfl rfl rfl rfl (lit_el c_Int 1 [1] (fun _=>rfl)) rfl) ?_
  obtain ⟨x28,hx28,h⟩:=bind_s h
  refine zae 5 rfl (zae 6 rfl (zaa rfl (ev_call_v (zai hx28) rfl [] ai rfl rfl rfl (.inl rfl) rfl) (s_st [_,_,_] (aops_nil ?_))))
  cases sj h
  exact aw_ret ⟨rfl,rv (rg [_,_,_])⟩
 refine aw_region (s_cm ?_)
 refine s_sa (aops_nil ?_)
 refine aw_if h (fun c29 h=>?_) (fun c29 h=>?_)
 ·refine aw_seq (aw_region ?_)
  iterate 3 refine s_mv ?_
  refine zaa rfl (zac (el:=lsEl c_Int [1,1]) 5 rfl rfl rfl rfl rfl rfl rfl rfl (lit_el c_Int 1 [1,1] (fun _=>rfl)) rfl) (s_mv ?_)
  refine zaa rfl (zac (el:=lsEl c_Int [1]) 6 rfl rfl rfl rfl rfl rfl rfl rfl (lit_el c_Int 1 [1] (fun _=>rfl)) rfl) ?_
  obtain ⟨x30,hx30,h⟩:=bind_s h
  refine zae 5 rfl (zae 6 rfl (zaa rfl (ev_call_v (zai hx30) rfl [] ai rfl rfl rfl (.inl rfl) rfl) (s_st [_,_,_] (aops_nil ?_))))
  cases sj h
  exact aw_ret ⟨rfl,rv (rg [_,_,_])⟩
 refine aw_seq (aw_region (s_cm ?_))
 refine s_sa (aops_nil ?_)
 refine aw_if h (fun c31 h=>?_) (fun c31 h=>?_)
 ·refine aw_seq (aw_region ?_)
  iterate 3 refine s_mv ?_
  refine zaa rfl (zac (el:=lsEl c_Int [3,3]) 5 rfl rfl rfl rfl rfl rfl rfl rfl (lit_el c_Int 1 [3,3] (fun _=>rfl)) rfl) (s_mv ?_)
  refine zaa rfl (zac (el:=lsEl c_Int [3]) 6 rfl rfl rfl rfl rfl rfl rfl rfl (lit_el c_Int 1 [3] (fun _=>rfl)) rfl) ?_
  obtain ⟨x32,hx32,h⟩:=bind_s h
  refine zae 5 rfl (zae 6 rfl (zaa rfl (ev_call_v (zai hx32) rfl [] ai rfl rfl rfl (.inl rfl) rfl) (s_st [_,_,_] (aops_nil ?_))))
  cases sj h
  exact aw_ret ⟨rfl,rv (rg [_,_,_])⟩
 refine aw_seq (aw_seq (aw_region (s_cm ?_)))
 refine s_sa (aops_nil ?_)
 refine aw_if h (fun c33 h=>?_) (fun c33 h=>?_)
 ·refine aw_skip (aw_yes rfl (c33) (aw_seq (aw_region (s_mv ?_))))
  refine zaa rfl (zac (el:=lsEl c_Int [2]) 5 rfl rfl rfl rfl rfl rfl rfl rfl (lit_el c_Int 1 [2] (fun _=>rfl)) rfl) (s_mv ?_)
  refine s_ln ?_
  refine s_cm ?_
  refine s_mv ?_
  obtain ⟨o34,j34,h⟩:=bind_s h
  refine aops_cutE 6 o34 (fun x34=>(⟨345,[],[(10,.one (.ptr 4 0)),(124,.one (.own 5)),(134,vB x34)],[(4,some (.box [cI 0,.val (.slice none 0 0),cB false])),(5,some (.row 3 1 [2].length (lsEl c_Int [2])))]⟩:ASt)) ?_ ?_
  ·refine zaa rfl (ev_build' (out:=[_,_,_]) rfl rfl rfl rfl rfl) (s_st [_,_,_] (aops_nil ?_))
   cases sj h
   refine aw_freeze 5 rfl ?_
   exact aw_ret ⟨rfl,rv (rg [_,_,_])⟩
  rcases co j34 with ⟨q34,j34⟩|⟨q34,j34⟩
  ·refine y_mv q34 ?_
   obtain ⟨x35,hx35,j34⟩:=bind_s j34
   refine aops_yes rfl rfl rfl rfl q34 (ev_call_v (zbZ hx35) rfl [] ai rfl rfl rfl (.inl rfl) rfl) (y_mv q34 ?_)
   obtain ⟨x36,hx36,j34⟩:=bind_s j34
   refine aops_yes rfl rfl rfl rfl q34 (ev_call_v (zbZ hx36) rfl [] ai rfl rfl rfl (.inl rfl) rfl) (y_cm q34 ?_)
   refine s_py q34 (aops_nil ?_)
   exact jx j34 wk
  iterate 5 refine np q34 ?_
  refine s_pn q34 (aops_nil ?_)
  exact jx j34 wk
 refine aw_region (s_cm ?_)
 refine s_sa (aops_nil ?_)
 refine aw_if h (fun c37 h=>?_) (fun c37 h=>?_)
 ·refine aw_seq (aw_region (s_mv ?_))
  refine zaa rfl (zac (el:=lsEl c_Int [2]) 5 rfl rfl rfl rfl rfl rfl rfl rfl (lit_el c_Int 1 [2] (fun _=>rfl)) rfl) (s_mv ?_)
  refine s_ln ?_
  refine s_cm ?_
  refine s_mv ?_
  obtain ⟨o38,j38,h⟩:=bind_s h
  refine aops_cutE 6 o38 (fun x38=>(⟨345,[],[(10,.one (.ptr 4 0)),(124,.one (.own 5)),(134,vB x38)],[(4,some (.box [cI 0,.val (.slice none 0 0),cB false])),(5,some (.row 3 1 [2].length (lsEl c_Int [2])))]⟩:ASt)) ?_ ?_
  ·refine zaa rfl (ev_build' (out:=[_,_,_]) rfl rfl rfl rfl rfl) (s_st [_,_,_] (aops_nil ?_))
   cases sj h
   refine aw_freeze 5 rfl ?_
   exact aw_ret ⟨rfl,rv (rg [_,_,_])⟩
  rcases co j38 with ⟨q38,j38⟩|⟨q38,j38⟩
  ·refine y_mv q38 ?_
   obtain ⟨x39,hx39,j38⟩:=bind_s j38
   refine aops_yes rfl rfl rfl rfl q38 (ev_call_v (zbZ hx39) rfl [] ai rfl rfl rfl (.inl rfl) rfl) (y_mv q38 ?_)
   obtain ⟨x40,hx40,j38⟩:=bind_s j38
   refine aops_yes rfl rfl rfl rfl q38 (ev_call_v (zbZ hx40) rfl [] ai rfl rfl rfl (.inl rfl) rfl) (y_cm q38 ?_)
   refine s_py q38 (aops_nil ?_)
   exact jx j38 wk
  iterate 5 refine np q38 ?_
  refine s_pn q38 (aops_nil ?_)
  exact jx j38 wk
 refine aw_seq (aw_seq (aw_region (s_cm ?_)))
 refine s_sa (aops_nil ?_)
 refine aw_if h (fun c41 h=>?_) (fun c41 h=>?_)
 ·refine aw_skip (aw_yes rfl (c41) (aw_seq (aw_region (s_mv ?_))))
  refine zaa rfl (zac (el:=lsEl c_Int [2]) 5 rfl rfl rfl rfl rfl rfl rfl rfl (lit_el c_Int 1 [2] (fun _=>rfl)) rfl) ?_
  iterate 3 refine s_mv ?_
  refine zaa rfl (zac (el:=lsEl c_Int [1,1]) 6 rfl rfl rfl rfl rfl rfl rfl rfl (lit_el c_Int 1 [1,1] (fun _=>rfl)) rfl) ?_
  obtain ⟨x42,hx42,h⟩:=bind_s h
  refine zaa rfl (ev_call_v (zbO hx42) rfl [6] ai rfl rfl rfl (.inr rfl) rfl) (s_mv ?_)
  obtain ⟨o43,j43,h⟩:=bind_s h
  refine aops_cutE 6 o43 (fun x43=>(⟨345,[],[(10,.one (.ptr 4 0)),(142,.one (.own 5)),(154,vB x43)],[(4,some (.box [cI 0,.val (.slice none 0 0),cB false])),(5,some (.row 3 1 [2].length (lsEl c_Int [2])))]⟩:ASt)) ?_ ?_
  ·refine zaa rfl (ev_build' (out:=[_,_,_]) rfl rfl rfl rfl rfl) (s_st [_,_,_] (aops_nil ?_))
   cases sj h
   refine aw_freeze 5 rfl ?_
   exact aw_ret ⟨rfl,rv (rg [_,_,_])⟩
  rcases co j43 with ⟨q43,j43⟩|⟨q43,j43⟩
  ·iterate 5 refine np q43 ?_
   refine s_py q43 (aops_nil ?_)
   exact jx j43 wk
  iterate 3 refine y_mv q43 ?_
  refine aops_yes rfl rfl rfl rfl q43 (zac (el:=lsEl c_Int [3,3]) 7 rfl rfl rfl rfl rfl rfl rfl rfl (lit_el c_Int 1 [3,3] (fun _=>rfl)) rfl) ?_
  obtain ⟨x44,hx44,j43⟩:=bind_s j43
  refine aops_yes rfl rfl rfl rfl q43 (ev_call_v (zbO hx44) rfl [7] ai rfl rfl rfl (.inr rfl) rfl) (s_pn q43 (aops_nil ?_))
  exact jx j43 wk
 refine aw_seq (aw_region (s_cm ?_))
 refine s_sa (aops_nil ?_)
 refine aw_if h (fun c45 h=>?_) (fun c45 h=>?_)
 ·refine aw_skip (aw_yes rfl (c45) (aw_seq (aw_region (s_mv ?_))))
  refine zaa rfl (zac (el:=lsEl c_Int [2]) 5 rfl rfl rfl rfl rfl rfl rfl rfl (lit_el c_Int 1 [2] (fun _=>rfl)) rfl) ?_
  iterate 3 refine s_mv ?_
  refine zaa rfl (zac (el:=lsEl c_Int [1,1]) 6 rfl rfl rfl rfl rfl rfl rfl rfl (lit_el c_Int 1 [1,1] (fun _=>rfl)) rfl) ?_
  obtain ⟨x46,hx46,h⟩:=bind_s h
  refine zaa rfl (ev_call_v (zbO hx46) rfl [6] ai rfl rfl rfl (.inr rfl) rfl) (s_mv ?_)
  obtain ⟨o47,j47,h⟩:=bind_s h
  refine aops_cutE 6 o47 (fun x47=>(⟨345,[],[(10,.one (.ptr 4 0)),(142,.one (.own 5)),(154,vB x47)],[(4,some (.box [cI 0,.val (.slice none 0 0),cB false])),(5,some (.row 3 1 [2].length (lsEl c_Int [2])))]⟩:ASt)) ?_ ?_
  ·refine zaa rfl (ev_build' (out:=[_,_,_]) rfl rfl rfl rfl rfl) (s_st [_,_,_] (aops_nil ?_))
   cases sj h
   refine aw_freeze 5 rfl ?_
   exact aw_ret ⟨rfl,rv (rg [_,_,_])⟩
  rcases co j47 with ⟨q47,j47⟩|⟨q47,j47⟩
  ·iterate 5 refine np q47 ?_
   refine s_py q47 (aops_nil ?_)
   exact jx j47 wk
  iterate 3 refine y_mv q47 ?_
  refine aops_yes rfl rfl rfl rfl q47 (zac (el:=lsEl c_Int [3,3]) 7 rfl rfl rfl rfl rfl rfl rfl rfl (lit_el c_Int 1 [3,3] (fun _=>rfl)) rfl) ?_
  obtain ⟨x48,hx48,j47⟩:=bind_s j47
  refine aops_yes rfl rfl rfl rfl q47 (ev_call_v (zbO hx48) rfl [7] ai rfl rfl rfl (.inr rfl) rfl) (s_pn q47 (aops_nil ?_))
  exact jx j47 wk
 refine aw_seq (aw_region (s_cm ?_))
 refine s_sa (aops_nil ?_)
 refine aw_if h (fun c49 h=>?_) (fun c49 h=>?_)
 ·refine aw_skip (aw_yes rfl (c49) (aw_seq (aw_region (s_mv ?_))))
  refine zaa rfl (zac (el:=lsEl c_Int [2]) 5 rfl rfl rfl rfl rfl rfl rfl rfl (lit_el c_Int 1 [2] (fun _=>rfl)) rfl) ?_
  iterate 3 refine s_mv ?_
  refine zaa rfl (zac (el:=lsEl c_Int [1,1]) 6 rfl rfl rfl rfl rfl rfl rfl rfl (lit_el c_Int 1 [1,1] (fun _=>rfl)) rfl) ?_
  obtain ⟨x50,hx50,h⟩:=bind_s h
  refine zaa rfl (ev_call_v (zbO hx50) rfl [6] ai rfl rfl rfl (.inr rfl) rfl) (s_mv ?_)
  obtain ⟨o51,j51,h⟩:=bind_s h
  refine aops_cutE 6 o51 (fun x51=>(⟨345,[],[(10,.one (.ptr 4 0)),(142,.one (.own 5)),(154,vB x51)],[(4,some (.box [cI 0,.val (.slice none 0 0),cB false])),(5,some (.row 3 1 [2].length (lsEl c_Int [2])))]⟩:ASt)) ?_ ?_
  ·refine zaa rfl (ev_build' (out:=[_,_,_]) rfl rfl rfl rfl rfl) (s_st [_,_,_] (aops_nil ?_))
   cases sj h
   refine aw_freeze 5 rfl ?_
   exact aw_ret ⟨rfl,rv (rg [_,_,_])⟩
  rcases co j51 with ⟨q51,j51⟩|⟨q51,j51⟩
  ·iterate 5 refine np q51 ?_
   refine s_py q51 (aops_nil ?_)
   exact jx j51 wk
  iterate 3 refine y_mv q51 ?_
  refine aops_yes rfl rfl rfl rfl q51 (zac (el:=lsEl c_Int [3,3]) 7 rfl rfl rfl rfl rfl rfl rfl rfl (lit_el c_Int 1 [3,3] (fun _=>rfl)) rfl) ?_
  obtain ⟨x52,hx52,j51⟩:=bind_s j51
  refine aops_yes rfl rfl rfl rfl q51 (ev_call_v (zbO hx52) rfl [7] ai rfl rfl rfl (.inr rfl) rfl) (s_pn q51 (aops_nil ?_))
  exact jx j51 wk
 refine aw_region (s_cm ?_)
 refine s_sa (aops_nil ?_)
 refine aw_if h (fun c53 h=>?_) (fun c53 h=>?_)
 ·refine aw_seq (aw_region (s_mv ?_))
  refine zaa rfl (zac (el:=lsEl c_Int [2]) 5 rfl rfl rfl rfl rfl rfl rfl rfl (lit_el c_Int 1 [2] (fun _=>rfl)) rfl) ?_
  iterate 3 refine s_mv ?_
  refine zaa rfl (zac (el:=lsEl c_Int [1,1]) 6 rfl rfl rfl rfl rfl rfl rfl rfl (lit_el c_Int 1 [1,1] (fun _=>rfl)) rfl) ?_
  obtain ⟨x54,hx54,h⟩:=bind_s h
  refine zaa rfl (ev_call_v (zbO hx54) rfl [6] ai rfl rfl rfl (.inr rfl) rfl) (s_mv ?_)
  obtain ⟨o55,j55,h⟩:=bind_s h
  refine aops_cutE 6 o55 (fun x55=>(⟨345,[],[(10,.one (.ptr 4 0)),(142,.one (.own 5)),(154,vB x55)],[(4,some (.box [cI 0,.val (.slice none 0 0),cB false])),(5,some (.row 3 1 [2].length (lsEl c_Int [2])))]⟩:ASt)) ?_ ?_
  ·refine zaa rfl (ev_build' (out:=[_,_,_]) rfl rfl rfl rfl rfl) (s_st [_,_,_] (aops_nil ?_))
   cases sj h
   refine aw_freeze 5 rfl ?_
   exact aw_ret ⟨rfl,rv (rg [_,_,_])⟩
  rcases co j55 with ⟨q55,j55⟩|⟨q55,j55⟩
  ·iterate 5 refine np q55 ?_
   refine s_py q55 (aops_nil ?_)
   exact jx j55 wk
  iterate 3 refine y_mv q55 ?_
  refine aops_yes rfl rfl rfl rfl q55 (zac (el:=lsEl c_Int [3,3]) 7 rfl rfl rfl rfl rfl rfl rfl rfl (lit_el c_Int 1 [3,3] (fun _=>rfl)) rfl) ?_
  obtain ⟨x56,hx56,j55⟩:=bind_s j55
  refine aops_yes rfl rfl rfl rfl q55 (ev_call_v (zbO hx56) rfl [7] ai rfl rfl rfl (.inr rfl) rfl) (s_pn q55 (aops_nil ?_))
  exact jx j55 wk
 refine aw_seq (aw_region (s_cm ?_))
 refine s_sa (aops_nil ?_)
 refine aw_if h (fun c57 h=>?_) (fun c57 h=>?_)
 ·refine aw_seq (aw_region (s_mv ?_))
  obtain ⟨x58,hx58,h⟩:=bind_s h
  refine zaa rfl (ev_call_v (zbZ hx58) rfl [] ai rfl rfl rfl (.inl rfl) rfl) (s_sa ?_)
  refine aops_nil (aw_seq (aw_region (s_mv ?_)))
  refine zaa rfl (zac (el:=lsEl c_Int [1]) 5 rfl rfl rfl rfl rfl rfl rfl rfl (lit_el c_Int 1 [1] (fun _=>rfl)) rfl) ?_
  iterate 2 refine s_mv ?_
  refine s_cm ?_
  refine s_mv ?_
  refine bo 3 ((x58==3)||(x58==4)) ?_
  refine s_mv ?_
  refine bo 3 (((x58==3)||(x58==4))||(x58==5)) ?_
  refine zaa rfl (ev_build' (out:=[_,_,_]) rfl rfl rfl rfl rfl) (s_st [_,_,_] (aops_nil ?_))
  cases sj h
  refine aw_freeze 5 rfl ?_
  exact aw_ret ⟨rfl,rv (rg [_,_,_])⟩
 refine aw_seq (aw_region (s_cm ?_))
 refine s_sa (aops_nil ?_)
 refine aw_if h (fun c61 h=>?_) (fun c61 h=>?_)
 ·refine aw_seq (aw_seq (aw_region (s_mv ?_)))
  obtain ⟨x62,hx62,h⟩:=bind_s h
  refine zaa rfl (ev_call_v (zbZ hx62) rfl [] ai rfl rfl rfl (.inl rfl) rfl) (s_cm (aops_nil ?_))
  refine aw_if h (fun c63 h=>?_) (fun c63 h=>?_)
  ·refine aw_seq (aw_region ?_)
   iterate 2 refine s_mv ?_
   refine zaa rfl (zac (el:=lsEl c_Int [4,1]) 5 rfl rfl rfl rfl rfl rfl rfl rfl (lit_el c_Int 1 [4,1] (fun _=>rfl)) rfl) (s_mv ?_)
   refine zaa rfl (zac (el:=lsEl c_Int [1]) 6 rfl rfl rfl rfl rfl rfl rfl rfl (lit_el c_Int 1 [1] (fun _=>rfl)) rfl) ?_
   obtain ⟨x64,hx64,h⟩:=bind_s h
   refine zae 5 rfl (zae 6 rfl (zaa rfl (ev_call_v (zai hx64) rfl [] ai rfl rfl rfl (.inl rfl) rfl) (s_st [_,_,_] (aops_nil ?_))))
   cases sj h
   exact aw_ret ⟨rfl,rv (rg [_,_,_])⟩
  refine aw_skip (aw_seq (aw_region ?_))
  iterate 2 refine s_mv ?_
  refine zaa rfl (zac (el:=lsEl c_Int [5,1]) 5 rfl rfl rfl rfl rfl rfl rfl rfl (lit_el c_Int 1 [5,1] (fun _=>rfl)) rfl) (s_mv ?_)
  refine zaa rfl (zac (el:=lsEl c_Int [3]) 6 rfl rfl rfl rfl rfl rfl rfl rfl (lit_el c_Int 1 [3] (fun _=>rfl)) rfl) ?_
  obtain ⟨x65,hx65,h⟩:=bind_s h
  refine zae 5 rfl (zae 6 rfl (zaa rfl (ev_call_v (zai hx65) rfl [] ai rfl rfl rfl (.inl rfl) rfl) (s_st [_,_,_] (aops_nil ?_))))
  cases sj h
  exact aw_ret ⟨rfl,rv (rg [_,_,_])⟩
 refine aw_seq (aw_region (s_cm ?_))
 refine s_sa (aops_nil ?_)
 refine aw_if h (fun c66 h=>?_) (fun c66 h=>?_)
 ·refine aw_seq (aw_seq (aw_region (s_mv ?_)))
  obtain ⟨x67,hx67,h⟩:=bind_s h
  refine zaa rfl (ev_call_v (zbZ hx67) rfl [] ai rfl rfl rfl (.inl rfl) rfl) (s_cm (aops_nil ?_))
  refine aw_if h (fun c68 h=>?_) (fun c68 h=>?_)
  ·refine aw_seq (aw_region ?_)
   iterate 2 refine s_mv ?_
   refine zaa rfl (zac (el:=lsEl c_Int [4,1]) 5 rfl rfl rfl rfl rfl rfl rfl rfl (lit_el c_Int 1 [4,1] (fun _=>rfl)) rfl) ?_
   refine zaa rfl (zac (el:=lsEl c_Int [4]) 6 rfl rfl rfl rfl rfl rfl rfl rfl (lit_el c_Int 1 [4] (fun _=>rfl)) rfl) ?_
   obtain ⟨x69,hx69,h⟩:=bind_s h
   refine zae 5 rfl (zae 6 rfl (zaa rfl (ev_call_v (zai hx69) rfl [] ai rfl rfl rfl (.inl rfl) rfl) (s_st [_,_,_] (aops_nil ?_))))
   cases sj h
   exact aw_ret ⟨rfl,rv (rg [_,_,_])⟩
  refine aw_skip (aw_seq (aw_region ?_))
  iterate 2 refine s_mv ?_
  refine zaa rfl (zac (el:=lsEl c_Int [5,3]) 5 rfl rfl rfl rfl rfl rfl rfl rfl (lit_el c_Int 1 [5,3] (fun _=>rfl)) rfl) ?_
  refine zaa rfl (zac (el:=lsEl c_Int [5]) 6 rfl rfl rfl rfl rfl rfl rfl rfl (lit_el c_Int 1 [5] (fun _=>rfl)) rfl) ?_
  obtain ⟨x70,hx70,h⟩:=bind_s h
  refine zae 5 rfl (zae 6 rfl (zaa rfl (ev_call_v (zai hx70) rfl [] ai rfl rfl rfl (.inl rfl) rfl) (s_st [_,_,_] (aops_nil ?_))))
  cases sj h
  exact aw_ret ⟨rfl,rv (rg [_,_,_])⟩
 refine aw_seq (aw_region (s_cm ?_))
 refine s_sa (aops_nil ?_)
 refine aw_if h (fun c71 h=>?_) (fun c71 h=>?_)
 ·refine aw_seq (aw_seq (aw_region (s_mv ?_)))
  obtain ⟨x72,hx72,h⟩:=bind_s h
  refine zaa rfl (ev_call_v (zbZ hx72) rfl [] ai rfl rfl rfl (.inl rfl) rfl) (s_cm (aops_nil ?_))
  refine aw_if h (fun c73 h=>?_) (fun c73 h=>?_)
  ·refine aw_seq (aw_region ?_)
   iterate 3 refine s_mv ?_
   refine zaa rfl (zac (el:=lsEl c_Int [4,1,1]) 5 rfl rfl rfl rfl rfl rfl rfl rfl (lit_el c_Int 1 [4,1,1] (fun _=>rfl)) rfl) ?_
   refine zaa rfl (zac (el:=lsEl c_Int [4]) 6 rfl rfl rfl rfl rfl rfl rfl rfl (lit_el c_Int 1 [4] (fun _=>rfl)) rfl) ?_
   obtain ⟨x74,hx74,h⟩:=bind_s h
   refine zae 5 rfl (zae 6 rfl (zaa rfl (ev_call_v (zai hx74) rfl [] ai rfl rfl rfl (.inl rfl) rfl) (s_st [_,_,_] (aops_nil ?_))))
   cases sj h
   exact aw_ret ⟨rfl,rv (rg [_,_,_])⟩
  refine aw_skip (aw_seq (aw_region ?_))
  iterate 3 refine s_mv ?_
  refine zaa rfl (zac (el:=lsEl c_Int [5,1,3]) 5 rfl rfl rfl rfl rfl rfl rfl rfl (lit_el c_Int 1 [5,1,3] (fun _=>rfl)) rfl) ?_
  refine zaa rfl (zac (el:=lsEl c_Int [5]) 6 rfl rfl rfl rfl rfl rfl rfl rfl (lit_el c_Int 1 [5] (fun _=>rfl)) rfl) ?_
  obtain ⟨x75,hx75,h⟩:=bind_s h
  refine zae 5 rfl (zae 6 rfl (zaa rfl (ev_call_v (zai hx75) rfl [] ai rfl rfl rfl (.inl rfl) rfl) (s_st [_,_,_] (aops_nil ?_))))
  cases sj h
  exact aw_ret ⟨rfl,rv (rg [_,_,_])⟩
 refine aw_seq (aw_region (s_cm ?_))
 refine s_sa (aops_nil ?_)
 refine aw_if h (fun c76 h=>?_) (fun c76 h=>?_)
 ·refine aw_seq (aw_region ?_)
  iterate 2 refine s_mv ?_
  refine zaa rfl (zac (el:=lsEl c_Int [1]) 5 rfl rfl rfl rfl rfl rfl rfl rfl (lit_el c_Int 1 [1] (fun _=>rfl)) rfl) (s_mv ?_)
  refine zaa rfl (zac (el:=lsEl c_Int [3]) 6 rfl rfl rfl rfl rfl rfl rfl rfl (lit_el c_Int 1 [3] (fun _=>rfl)) rfl) ?_
  obtain ⟨x77,hx77,h⟩:=bind_s h
  refine zae 5 rfl (zae 6 rfl (zaa rfl (ev_call_v (zai hx77) rfl [] ai rfl rfl rfl (.inl rfl) rfl) (s_st [_,_,_] (aops_nil ?_))))
  cases sj h
  exact aw_ret ⟨rfl,rv (rg [_,_,_])⟩
 refine aw_seq (aw_region (s_cm ?_))
 refine s_sa (aops_nil ?_)
 refine aw_if h (fun c78 h=>?_) (fun c78 h=>?_)
 ·refine aw_seq (aw_region ?_)
  iterate 2 refine s_mv ?_
  refine s_fd ?_
  refine s_ld ?_
  obtain ⟨x79,hx79,h⟩:=bind_s h
  refine zaa rfl (st_call_r (r':=.one (.own 5)) 5 rfl (zeW hx79) rfl [] ai rfl rfl rfl (.inl rfl) rfl rfl) ?_
  refine zaa rfl (zac (el:=lsEl c_Int [4]) 6 rfl rfl rfl rfl rfl rfl rfl rfl (lit_el c_Int 1 [4] (fun _=>rfl)) rfl) ?_
  obtain ⟨x80,hx80,h⟩:=bind_s h
  refine zae 5 rfl (zae 6 rfl (zaa rfl (ev_call_v (zai hx80) rfl [] ai rfl rfl rfl (.inl rfl) rfl) (s_st [_,_,_] (aops_nil ?_))))
  cases sj h
  exact aw_ret ⟨rfl,rv (rg [_,_,_])⟩
 refine aw_seq (aw_region (s_cm ?_))
 refine s_sa (aops_nil ?_)
 refine aw_if h (fun c81 h=>?_) (fun c81 h=>?_)
 ·refine aw_seq (aw_region ?_)
  iterate 2 refine s_mv ?_
  refine s_fd ?_
  refine s_ld ?_
  obtain ⟨x82,hx82,h⟩:=bind_s h
  refine zaa rfl (st_call_r (r':=.one (.own 5)) 5 rfl (zeW hx82) rfl [] ai rfl rfl rfl (.inl rfl) rfl rfl) ?_
  refine zaa rfl (zac (el:=lsEl c_Int [5]) 6 rfl rfl rfl rfl rfl rfl rfl rfl (lit_el c_Int 1 [5] (fun _=>rfl)) rfl) ?_
  obtain ⟨x83,hx83,h⟩:=bind_s h
  refine zae 5 rfl (zae 6 rfl (zaa rfl (ev_call_v (zai hx83) rfl [] ai rfl rfl rfl (.inl rfl) rfl) (s_st [_,_,_] (aops_nil ?_))))
  cases sj h
  exact aw_ret ⟨rfl,rv (rg [_,_,_])⟩
 refine aw_seq (aw_region (s_cm ?_))
 refine s_sa (aops_nil ?_)
 refine aw_if h (fun c84 h=>?_) (fun c84 h=>?_)
 ·refine aw_seq (aw_region ?_)
  iterate 2 refine s_mv ?_
  refine zaa rfl (zac (el:=lsEl c_Int [2]) 5 rfl rfl rfl rfl rfl rfl rfl rfl (lit_el c_Int 1 [2] (fun _=>rfl)) rfl) ?_
  obtain ⟨x85,hx85,h⟩:=bind_s h
  refine zae 5 rfl (zaa rfl (ev_call_v (zai hx85) rfl [] ai rfl rfl rfl (.inl rfl) rfl) (s_st [_,_,_] (aops_nil ?_)))
  cases sj h
  exact aw_ret ⟨rfl,rv (rg [_,_,_])⟩
 refine aw_seq (aw_region (s_cm ?_))
 refine s_sa (aops_nil ?_)
 refine aw_if h (fun c86 h=>?_) (fun c86 h=>?_)
 ·obtain ⟨g87,h⟩:=ifp_s h
  obtain ⟨g88,h⟩:=ifp_s h
  refine aw_seq ?_
  apply aw_draw 12 ((⟨[],.one (.ptr 0 _)⟩:Add)::⟨[],.one (CV.ls zab a0.Types)⟩::⟨[],.one (.ptr 3 _)⟩::⟨[],vI a3.A⟩::⟨[],.one (.cptr _)⟩::⟨[],.one (.cptr _)⟩::⟨[],.one (CV.ls zad ((a0.Types.getD ((a3.A).toNat) default).Methods))⟩::⟨[],.one (.ptr 3 _)⟩::⟨[],vI a3.B⟩::⟨[],.one (.cptr _)⟩::⟨[],.agg (zad (((a0.Types.getD ((a3.A).toNat) default).Methods).getD ((a3.B).toNat) default))⟩::⟨[(5,some (.box [.val (Sv []),.val (.slice none 0 0),cI 0,.val (.slice none 0 0),.val (.slice none 0 0)]))],.one (.ptr 5 _)⟩::[]) (by decide) rfl ?hk1x ?hf1x ?ho1x ?hr1x
  case ho1x =>
   refine o_fd 0 ?_
   refine o_ld 1 ?_
   refine o_fd 0 ?_
   refine o_ld 4 ?_
   refine obn 15 (fun S hle hfr=>.inl ⟨w0,zaf (hle.e rfl) (hle.e rfl) (idx_eq g87) (idx_lt g87) rfl (hle.d rfl)⟩) ?_
   refine o_fi 31 ?_
   refine o_li 63 ?_
   refine o_fd 0 ?_
   refine o_ld 128 ?_
   refine obn 511 (fun S hle hfr=>.inl ⟨w0,zaf (hle.e rfl) (hle.e rfl) (idx_eq g88) (idx_lt g88) rfl (hle.d rfl)⟩) ?_
   refine obn 1023 (fun S hle hfr=>.inl ⟨w0,zaI (ds:=[_,_,_,_,_]) (hle.e rfl) rfl rfl (hle.d rfl)⟩) ?_
   refine obn 0 (fun S hle hfr=>.inl ⟨w0,st_alloc (cs:=[.val (Sv []),.val (.slice none 0 0),cI 0,.val (.slice none 0 0),.val (.slice none 0 0)]) 5 (hfr _ (List.mem_singleton.2 rfl)) rfl rfl rfl (hle.d rfl)⟩) ?_
   exact trivial
  case hk1x=>rfl
  case hf1x=>rfl
  refine s_st [_,_,_,_,_] ?_
  refine aops_nil (aw_seq (aw_region (s_mv ?_)))
  refine zaa rfl (zac (el:=lsEl c_Int [3]) 6 rfl rfl rfl rfl rfl rfl rfl rfl (lit_el c_Int 1 [3] (fun _=>rfl)) rfl) (s_fd ?_)
  refine s_ld ?_
  obtain ⟨g89,h⟩:=ifp_s h
  refine zaa rfl (st_app_ls (f:=c_Int) [3] ((((a0.Types.getD ((a3.A).toNat) default).Methods).getD ((a3.B).toNat) default).Params) (fun _=>rfl) rfl rfl (.inl rfl) (by omega) (by omega) rfl) (s_sa (aops_nil (aw_seq (aw_region ?_))))
  iterate 2 refine s_mv ?_
  obtain ⟨x90,hx90,h⟩:=bind_s h
  refine zae 6 rfl (zaa rfl (ev_call_v (zai hx90) rfl [] ai rfl rfl rfl (.inl rfl) rfl) ?_)
  refine zaa rfl (st_alloc (cs:=[cI 0,.val (.slice none 0 0),cB false]) 7 rfl rfl rfl rfl rfl) (s_st [_,_,_] ?_)
  refine aops_nil (aw_seq (aw_seq (aw_region (s_fd ?_))))
  refine s_ld ?_
  refine s_cm (aops_nil ?_)
  refine aw_if h (fun c91 h=>?_) (fun c91 h=>?_)
  ·refine aw_region (s_fd ?_)
   refine s_ld ?_
   refine zaa rfl (zac (el:=lsEl c_Int [((((a0.Types.getD ((a3.A).toNat) default).Methods).getD ((a3.B).toNat) default).Result)]) 8 rfl rfl rfl rfl rfl rfl rfl rfl (lit_el c_Int 1 [((((a0.Types.getD ((a3.A).toNat) default).Methods).getD ((a3.B).toNat) default).Result)] (fun _=>rfl)) rfl) (s_fd ?_)
   refine s_st [_,_,_] ?_
   refine aops_nil (aw_seq (aw_region (s_fd ?_)))
   refine s_ld ?_
   refine s_mv ?_
   refine bo 6 (x90.OK&&(((a4.length:Nat):Int)==((([3]++((((a0.Types.getD ((a3.A).toNat) default).Methods).getD ((a3.B).toNat) default).Params)).length:Nat):Int))) ?_
   refine s_fd ?_
   refine s_st [_,_,_] ?_
   refine aops_nil (aw_seq (aw_region (s_ls [_,_,_] ?_)))
   refine s_st [_,_,_] (aops_nil ?_)
   cases sj h
   refine aw_freeze 8 rfl ?_
   exact aw_ret ⟨rfl,rv (rg [_,_,_])⟩
  refine aw_skip (aw_seq (aw_region (s_fd ?_)))
  refine s_ld ?_
  refine s_mv ?_
  refine bo 6 (x90.OK&&(((a4.length:Nat):Int)==((([3]++((((a0.Types.getD ((a3.A).toNat) default).Methods).getD ((a3.B).toNat) default).Params)).length:Nat):Int))) ?_
  refine s_fd ?_
  refine s_st [_,_,_] ?_
  refine aops_nil (aw_seq (aw_region (s_ls [_,_,_] ?_)))
  refine s_st [_,_,_] (aops_nil ?_)
  cases sj h
  exact aw_ret ⟨rfl,rv (rg [_,_,_])⟩
 refine aw_seq (aw_region (s_cm ?_))
 refine s_sa (aops_nil ?_)
 refine aw_if h (fun c94 h=>?_) (fun c94 h=>?_)
 ·refine aw_seq (aw_region (s_mv ?_))
  refine s_ln ?_
  refine s_cm ?_
  refine zaa rfl (ev_build' (out:=[_,_,_]) rfl rfl rfl rfl rfl) (s_st [_,_,_] (aops_nil ?_))
  cases sj h
  exact aw_ret ⟨rfl,rv (rg [_,_,_])⟩
 refine aw_seq (aw_region (s_cm ?_))
 refine s_sa (aops_nil ?_)
 refine aw_if h (fun c95 h=>?_) (fun c95 h=>?_)
 ·refine aw_seq (aw_region (s_sa ?_))
  refine aops_nil (aw_seq (aw_seq (aw_region (s_fd ?_))))
  refine s_ld ?_
  refine s_cm (aops_nil ?_)
  refine aw_if h (fun c96 h=>?_) (fun c96 h=>?_)
  ·refine aw_region (s_fd ?_)
   refine s_ld ?_
   refine zaa rfl (zac (el:=lsEl c_Int [a2.Result]) 5 rfl rfl rfl rfl rfl rfl rfl rfl (lit_el c_Int 1 [a2.Result] (fun _=>rfl)) rfl) (s_sa (aops_nil (aw_seq (aw_region ?_))))
   iterate 2 refine s_mv ?_
   obtain ⟨x97,hx97,h⟩:=bind_s h
   refine zae 5 rfl (zaa rfl (ev_call_v (zai hx97) rfl [] ai rfl rfl rfl (.inl rfl) rfl) ?_)
   refine zaa rfl (st_alloc (cs:=[cI 0,.val (.slice none 0 0),cB false]) 6 rfl rfl rfl rfl rfl) (s_st [_,_,_] ?_)
   refine aops_nil (aw_seq (aw_region (s_fd ?_)))
   refine s_ld ?_
   refine s_mv ?_
   refine bo 6 (x97.OK&&(((a4.length:Nat):Int)==(([a2.Result].length:Nat):Int))) ?_
   refine s_fd ?_
   refine s_st [_,_,_] ?_
   refine aops_nil (aw_seq (aw_region (s_ls [_,_,_] ?_)))
   refine s_st [_,_,_] (aops_nil ?_)
   cases sj h
   exact aw_ret ⟨rfl,rv (rg [_,_,_])⟩
  refine aw_skip (aw_seq (aw_region ?_))
  iterate 2 refine s_mv ?_
  obtain ⟨x99,hx99,h⟩:=bind_s h
  refine zaa rfl (ev_call_v (zai hx99) rfl [] ai rfl rfl rfl (.inl rfl) rfl) ?_
  refine zaa rfl (st_alloc (cs:=[cI 0,.val (.slice none 0 0),cB false]) 5 rfl rfl rfl rfl rfl) (s_st [_,_,_] ?_)
  refine aops_nil (aw_seq (aw_region (s_fd ?_)))
  refine s_ld ?_
  refine s_mv ?_
  refine aops_mid 6 (⟨345,[],[(10,.one (.ptr 4 0)),(19,.one (.ptr 5 0)),(319,vB (x99.OK&&(((a4.length:Nat):Int)==0)))],[(4,some (.box [cI 0,.val (.slice none 0 0),cB false])),(5,some (.box (zdy x99)))]⟩:ASt) ?_ ?_
  ·rcases bool_or (x99.OK) with q100|q100
   ·skip
    refine y_mv q100 ?_
    refine y_ln q100 ?_
    refine y_mv q100 ?_
    refine aops_yes rfl rfl rfl rfl q100 (ziK rfl rfl) (y_cm q100 ?_)
    refine s_py q100 (aops_nil ?_)
    exact wq q100
   iterate 5 refine np q100 ?_
   refine s_pn q100 (aops_nil ?_)
   exact wq q100
  refine s_fd ?_
  refine s_st [_,_,_] ?_
  refine aops_nil (aw_seq (aw_region (s_ls [_,_,_] ?_)))
  refine s_st [_,_,_] (aops_nil ?_)
  cases sj h
  exact aw_ret ⟨rfl,rv (rg [_,_,_])⟩
 refine aw_seq (aw_region (s_cm ?_))
 refine s_sa (aops_nil ?_)
 refine aw_if h (fun c101 h=>?_) (fun c101 h=>?_)
 ·refine aw_seq (aw_region ?_)
  iterate 3 refine s_mv ?_
  refine zaa rfl (zac (el:=lsEl c_Int [3,1]) 5 rfl rfl rfl rfl rfl rfl rfl rfl (lit_el c_Int 1 [3,1] (fun _=>rfl)) rfl) ?_
  obtain ⟨x102,hx102,h⟩:=bind_s h
  refine zae 5 rfl (zaa rfl (ev_call_v (zai hx102) rfl [] ai rfl rfl rfl (.inl rfl) rfl) (s_st [_,_,_] (aops_nil ?_)))
  cases sj h
  exact aw_ret ⟨rfl,rv (rg [_,_,_])⟩
 refine aw_seq (aw_region (s_cm ?_))
 refine s_sa (aops_nil ?_)
 refine aw_if h (fun c103 h=>?_) (fun c103 h=>?_)
 ·refine aw_seq (aw_region ?_)
  iterate 4 refine s_mv ?_
  refine zaa rfl (zac (el:=lsEl c_Int [3,1,1]) 5 rfl rfl rfl rfl rfl rfl rfl rfl (lit_el c_Int 1 [3,1,1] (fun _=>rfl)) rfl) ?_
  obtain ⟨x104,hx104,h⟩:=bind_s h
  refine zae 5 rfl (zaa rfl (ev_call_v (zai hx104) rfl [] ai rfl rfl rfl (.inl rfl) rfl) (s_st [_,_,_] (aops_nil ?_)))
  cases sj h
  exact aw_ret ⟨rfl,rv (rg [_,_,_])⟩
 refine aw_seq (aw_region (s_cm ?_))
 refine s_sa (aops_nil ?_)
 refine aw_if h (fun c105 h=>?_) (fun c105 h=>?_)
 ·refine aw_seq (aw_region ?_)
  iterate 2 refine s_mv ?_
  refine zaa rfl (zac (el:=lsEl c_Int [3]) 5 rfl rfl rfl rfl rfl rfl rfl rfl (lit_el c_Int 1 [3] (fun _=>rfl)) rfl) ?_
  obtain ⟨x106,hx106,h⟩:=bind_s h
  refine zae 5 rfl (zaa rfl (ev_call_v (zai hx106) rfl [] ai rfl rfl rfl (.inl rfl) rfl) (s_st [_,_,_] (aops_nil ?_)))
  cases sj h
  exact aw_ret ⟨rfl,rv (rg [_,_,_])⟩
 refine aw_skip (aw_seq (aw_region (s_mv ?_)))
 obtain ⟨x107,hx107,h⟩:=bind_s h
 refine zaa rfl (ev_call_v (zai hx107) rfl [] ai rfl rfl rfl (.inl rfl) rfl) (s_st [_,_,_] (aops_nil ?_))
 cases sj h
 exact aw_ret ⟨rfl,rv (rg [_,_,_])⟩
set_option maxHeartbeats 2000000 in
theorem zed {k:Nat} {a0:CodeMethod} {a1:Int} {r:(List Int)} (h:zcf k a0 a1=some r):FnC Tryz.prog 53 [.agg (zad a0),vI a1] [] (Det (.one (CV.ls c_Int r)) []):=by
 unfold zcf at h
 refine fn_intro' 43 Tryz.func53 rfl rfl rfl (aw_seq (aw_region (zaa rfl (st_box 0 rfl rfl rfl rfl) (s_sa ?_))))
 refine aops_nil (aw_seq (aw_region (s_mv ?_)))
 refine zaa rfl (ev_add rfl rfl rfl (wrap_W _)) (s_sa ?_)
 refine aops_nil (aw_seq (aw_seq (aw_region (s_mv ?_))))
 refine s_fd ?_
 refine s_ld ?_
 refine s_ln ?_
 refine s_cm (aops_nil ?_)
 refine aw_if h (fun c1 h=>?_) (fun c1 h=>?_)
 ·refine aw_region (s_sa ?_)
  refine aops_nil (aw_seq (aw_seq (aw_region (s_fd ?_))))
  refine s_ld ?_
  refine s_mv ?_
  obtain ⟨g2,h⟩:=ifp_s h
  refine zaa rfl (zaf rfl rfl (idx_eq g2) (idx_lt g2) rfl rfl) (zaa rfl (zaM rfl rfl rfl) ?_)
  refine zaa rfl (zas rfl rfl rfl) (aops_nil (aw_block (aw_seq (aw_region (s_cm ?_)))))
  refine s_sa (aops_nil ?_)
  refine aw_if h (fun c3 h=>?_) (fun c3 h=>?_)
  ·refine aw_seq (aw_region (s_fd ?_))
   refine s_ld ?_
   refine s_mv ?_
   obtain ⟨g4,h⟩:=ifp_s h
   refine zaa rfl (zaf rfl rfl (idx_eq g4) (idx_lt g4) rfl rfl) (zaa rfl (zaM rfl rfl rfl) ?_)
   refine zaa rfl (zas rfl rfl rfl) ?_
   refine zaa rfl (zac (el:=lsEl c_Int [((a0.Code.getD ((a1).toNat) default).A)]) 1 rfl rfl rfl rfl rfl rfl rfl rfl (lit_el c_Int 1 [((a0.Code.getD ((a1).toNat) default).A)] (fun _=>rfl)) rfl) (s_sa (aops_nil ?_))
   cases sj h
   refine aw_freeze 1 rfl ?_
   exact aw_ret ⟨rfl,rv r1⟩
  refine aw_seq (aw_region (s_cm ?_))
  refine s_sa (aops_nil ?_)
  refine aw_if h (fun c5 h=>?_) (fun c5 h=>?_)
  ·refine aw_seq (aw_region (s_mv ?_))
   refine s_fd ?_
   refine s_ld ?_
   refine s_mv ?_
   obtain ⟨g6,h⟩:=ifp_s h
   refine zaa rfl (zaf rfl rfl (idx_eq g6) (idx_lt g6) rfl rfl) (zaa rfl (zaM rfl rfl rfl) ?_)
   refine zaa rfl (zas rfl rfl rfl) ?_
   refine zaa rfl (zac (el:=lsEl c_Int [(-1),((a0.Code.getD ((a1).toNat) default).A)]) 1 rfl rfl rfl rfl rfl rfl rfl rfl (lit_el c_Int 1 [(-1),((a0.Code.getD ((a1).toNat) default).A)] (fun _=>rfl)) rfl) (s_sa (aops_nil ?_))
   cases sj h
   refine aw_freeze 1 rfl ?_
   exact aw_ret ⟨rfl,rv r1⟩
  refine aw_seq (aw_seq (aw_region (s_cm ?_)))
  refine s_sa (aops_nil ?_)
  refine aw_if h (fun c7 h=>?_) (fun c7 h=>?_)
  ·refine aw_skip (aw_yes rfl (c7) (aw_seq (aw_region (s_sa (aops_nil ?_)))))
   cases sj h
   exact aw_ret ⟨rfl,rv r1⟩
  refine aw_region (s_cm ?_)
  refine s_sa (aops_nil ?_)
  refine aw_if h (fun c8 h=>?_) (fun c8 h=>?_)
  ·refine aw_seq (aw_region (s_sa (aops_nil ?_)))
   cases sj h
   exact aw_ret ⟨rfl,rv r1⟩
  refine aw_skip (aw_seq (aw_region (s_mv ?_)))
  refine zaa rfl (zac (el:=lsEl c_Int [(-1)]) 1 rfl rfl rfl rfl rfl rfl rfl rfl (lit_el c_Int 1 [(-1)] (fun _=>rfl)) rfl) (s_sa (aops_nil ?_))
  cases sj h
  refine aw_freeze 1 rfl ?_
  exact aw_ret ⟨rfl,rv r1⟩
 refine aw_skip (aw_seq (aw_seq (aw_region (s_fd ?_))))
 refine s_ld ?_
 refine s_mv ?_
 obtain ⟨g9,h⟩:=ifp_s h
 refine zaa rfl (zaf rfl rfl (idx_eq g9) (idx_lt g9) rfl rfl) (zaa rfl (zaM rfl rfl rfl) ?_)
 refine zaa rfl (zas rfl rfl rfl) (aops_nil (aw_block (aw_seq (aw_region (s_cm ?_)))))
 refine s_sa (aops_nil ?_)
 refine aw_if h (fun c10 h=>?_) (fun c10 h=>?_)
 ·refine aw_seq (aw_region (s_fd ?_))
  refine s_ld ?_
  refine s_mv ?_
  obtain ⟨g11,h⟩:=ifp_s h
  refine zaa rfl (zaf rfl rfl (idx_eq g11) (idx_lt g11) rfl rfl) (zaa rfl (zaM rfl rfl rfl) ?_)
  refine zaa rfl (zas rfl rfl rfl) ?_
  refine zaa rfl (zac (el:=lsEl c_Int [((a0.Code.getD ((a1).toNat) default).A)]) 1 rfl rfl rfl rfl rfl rfl rfl rfl (lit_el c_Int 1 [((a0.Code.getD ((a1).toNat) default).A)] (fun _=>rfl)) rfl) (s_sa (aops_nil ?_))
  cases sj h
  refine aw_freeze 1 rfl ?_
  exact aw_ret ⟨rfl,rv r1⟩
 refine aw_seq (aw_region (s_cm ?_))
 refine s_sa (aops_nil ?_)
 refine aw_if h (fun c12 h=>?_) (fun c12 h=>?_)
 ·refine aw_seq (aw_region (s_mv ?_))
  refine s_fd ?_
  refine s_ld ?_
  refine s_mv ?_
  obtain ⟨g13,h⟩:=ifp_s h
  refine zaa rfl (zaf rfl rfl (idx_eq g13) (idx_lt g13) rfl rfl) (zaa rfl (zaM rfl rfl rfl) ?_)
  refine zaa rfl (zas rfl rfl rfl) ?_
  refine zaa rfl (zac (el:=lsEl c_Int [(W (a1+1)),((a0.Code.getD ((a1).toNat) default).A)]) 1 rfl rfl rfl rfl rfl rfl rfl rfl (lit_el c_Int 1 [(W (a1+1)),((a0.Code.getD ((a1).toNat) default).A)] (fun _=>rfl)) rfl) (s_sa (aops_nil ?_))
  cases sj h
  refine aw_freeze 1 rfl ?_
  exact aw_ret ⟨rfl,rv r1⟩
 refine aw_seq (aw_seq (aw_region (s_cm ?_)))
 refine s_sa (aops_nil ?_)
 refine aw_if h (fun c14 h=>?_) (fun c14 h=>?_)
 ·refine aw_skip (aw_yes rfl (c14) (aw_seq (aw_region (s_sa (aops_nil ?_)))))
  cases sj h
  exact aw_ret ⟨rfl,rv r1⟩
 refine aw_region (s_cm ?_)
 refine s_sa (aops_nil ?_)
 refine aw_if h (fun c15 h=>?_) (fun c15 h=>?_)
 ·refine aw_seq (aw_region (s_sa (aops_nil ?_)))
  cases sj h
  exact aw_ret ⟨rfl,rv r1⟩
 refine aw_skip (aw_seq (aw_region (s_mv ?_)))
 refine zaa rfl (zac (el:=lsEl c_Int [(W (a1+1))]) 1 rfl rfl rfl rfl rfl rfl rfl rfl (lit_el c_Int 1 [(W (a1+1))] (fun _=>rfl)) rfl) (s_sa (aops_nil ?_))
 cases sj h
 refine aw_freeze 1 rfl ?_
 exact aw_ret ⟨rfl,rv r1⟩
end Md
end Go.Proofs.YtclffekkjfhpdaaGreat

