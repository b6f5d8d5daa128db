import Derived.Test.YtclffekkjfhpdaaGreatQAbsSw
import Derived.Test.YtclffekkjfhpdaaGreatQMo
import Derived.Test.YtclffekkjfhpdaaGreatQTy
import Derived.Test.YtclffekkjfhpdaaGreatQAbsT
import Derived.Test.YtclffekkjfhpdaaGreatQAbsG
import Derived.Test.YtclffekkjfhpdaaGreatQCodeF
namespace Go.Proofs.YtclffekkjfhpdaaGreat
open Go.ChangeShapes Go.WideShapes Go.RowKit
open Abs
set_option linter.unusedVariables false
set_option linter.unusedSimpArgs false
set_option maxRecDepth 10000
namespace Md
def zbJ (x:Bytecodestate):List CV:=[cB x.reached,CV.ls c_Int x.stack,.val (.int .u64 (x.set.toNat:Int))]
set_option maxHeartbeats 2000000 in
theorem zfr {k:Nat} {a0:Code} {a1:CodeType} {a2:CodeMethod} {r:(List Bytecodestate)×Bool} (h:zcI k a0 a1 a2=some r):FnC Tryz.prog 17 [.agg [CV.ls zab a0.Types],.agg (zab a1),.agg (zad a2)] [] (Det (.tup [.one (CV.ls zbJ r.1),vB r.2]) []):=by
 unfold zcI at h
 refine fn_intro' 177 Tryz.func17 rfl rfl rfl (aw_seq (aw_region (zaa rfl (st_box 0 rfl rfl rfl rfl) (zaa rfl (st_box 1 rfl rfl rfl rfl) ?_))))
 refine zaa rfl (st_box 2 rfl rfl rfl rfl) ?_
 iterate 2 refine s_sa ?_
 refine aops_nil (aw_seq (aw_region (s_fd ?_)))
 refine s_ld ?_
 refine s_ln ?_
 obtain ⟨g1,h⟩:=ifp_s h
 refine zaa rfl (st_makes (zs:=[.bool false,.slice none 0 0,.int .u64 0]) (f:=zbJ) 3 a2.Code.length a2.Code.length (⟨false,([]:List Int),(0:UInt64)⟩:Bytecodestate) rfl rfl rfl (Nat.le_refl _) g1 rfl (fun A w=>by repeat' (first|exact .nil|refine .cons ?_ ?_|exact RepC.val _ rfl|exact RepC.nil _|fail)) (fun _=>rfl) (by decide) (Nat.le_trans (Nat.mul_le_mul_right _ g1) (by decide)) rfl) (s_sa ?_)
 refine aops_nil (aw_seq (aw_region (s_mv ?_)))
 refine s_fd ?_
 refine s_ld ?_
 refine s_ln ?_
 refine zaa rfl (ev_shl rfl rfl rfl (nn _) (shl_u64 (1:UInt64) (nat_toNat a2.Params.length))) ?_
 refine zaa rfl (ev_sub rfl rfl rfl (sub_u64 (shl64 (1:UInt64) a2.Params.length) (1:UInt64))) ?_
 refine zaa rfl (ev_build' (out:=[_,_,_]) rfl rfl rfl rfl rfl) ?_
 obtain ⟨g2,h⟩:=ifp_s h
 refine zaa rfl (zbI rfl rfl rfl rfl g2 rfl) ?_
 refine zaa rfl (zex (l:=(List.replicate a2.Code.length (⟨false,([]:List Int),(0:UInt64)⟩:Bytecodestate))) (f:=zbJ) (⟨true,([]:List Int),((shl64 (1:UInt64) a2.Params.length) - (1:UInt64))⟩:Bytecodestate) (fun _=>rfl) rfl rfl g2 rfl rfl (by repeat' (first|exact .nil|refine .cons ?_ ?_|exact .refl _|exact .nil _|fail)) rfl rfl rfl rfl rfl) ?_
 refine aops_nil (aw_seq (aw_region (zaa rfl (zac (el:=lsEl c_Int [0]) 4 rfl rfl rfl rfl rfl rfl rfl rfl (lit_el c_Int 1 [0] (fun _=>rfl)) rfl) (s_sa (aops_nil ?_)))))
 obtain ⟨o3,j3,h⟩:=bind_s h
 refine aw_cut (ε:=(List Bytecodestate)) (fun x=>(⟨177,[],[(5,.one (.ptr 2 0)),(8,.one (.own 3))],[(2,some (.box (zad a2))),(3,some (.row 64 3 x.length (lsEl zbJ x)))]⟩:ASt)) (fun x=>Sum.inl x=o3) ?_ ?_
 ·intro x3_0 hI3
  subst hI3
  replace h:=onS_l h
  obtain ⟨o4,j4,h⟩:=bind_s h
  refine aw_cut (ε:=Unit) (fun x=>(⟨177,[],[(8,.one (.own 3))],[(3,some (.row 64 3 x3_0.length (lsEl zbJ x3_0)))]⟩:ASt)) (fun x=>Sum.inl x=o4) ?_ ?_
  ·intro x4_0 hI4
   subst hI4
   replace h:=onS_l h
   refine aw_seq (aw_region (s_mv ?_))
   iterate 2 refine s_sa ?_
   refine aops_nil ?_
   cases sj h
   refine aw_freeze 3 rfl ?_
   exact aw_ret ⟨rfl,rv (rn (.cons o1 (.cons o1 .nil)))⟩
  refine aw_seq (aw_region (s_mv ?_))
  refine zaa rfl (zfk rfl rfl rfl) (s_mv (aops_nil (aw_block ?_)))
  obtain ⟨o5,ho5,j4⟩:=bind_s j4
  refine aw_loop (ι:={p:Nat×Nat // zaF k a2 x3_0 p.1 p.2=some o5}) (fun p=>(⟨177,[],[(5,.one (.ptr 2 0)),(8,.one (.own 3)),(146,.one (.own 3)),(147,vI ((x3_0.length:Nat):Int)),(148,vI ((p.1.2:Nat):Int))],[(2,some (.box (zad a2))),(3,some (.row 64 3 x3_0.length (lsEl zbJ x3_0)))]⟩:ASt)) (fun p=>p.1.1) ⟨(k,0),ho5⟩ wk ?_
  intro p5
  obtain ⟨⟨n5,s5_0⟩,l5⟩:=p5
  replace l5:zaF k a2 x3_0 n5 s5_0=some o5:=l5
  rcases n5 with _|n5
  ·exact absurd (show none=some o5 from l5) nofun
  rw [zaF] at l5
  refine aw_seq (aw_region (s_cm (aops_nil (aw_seq ?_))))
  refine aw_if l5 (fun c6 l5=>?_) (fun c6 l5=>?_)
  ·refine aw_skip (aw_seq (aw_block (aw_seq (aw_region (s_mv ?_)))))
   obtain ⟨g7,l5⟩:=ifp_s l5
   refine zaa rfl (zbI rfl rfl rfl rfl g7 rfl) (zaa rfl (zfn (ds:=[_,_,_]) rfl rfl g7 rfl rfl rfl) ?_)
   refine zaa rfl (st_alloc (cs:=[cB false,.val (.slice none 0 0),.val (.int .u64 0)]) 5 rfl rfl rfl rfl rfl) (s_sa ?_)
   refine s_st [_,_,_] ?_
   refine aops_nil (aw_seq (aw_region (s_fd ?_)))
   refine s_ld ?_
   refine s_mv ?_
   obtain ⟨g8,l5⟩:=ifp_s l5
   refine zaa rfl (zaf rfl rfl rfl g8 rfl rfl) (zaa rfl (zaI (ds:=[_,_,_,_,_,_,_,_]) rfl rfl rfl rfl) ?_)
   refine zaa rfl (st_alloc (cs:=[cI 0,cI 0,cI 0,cI 0,cI 0,.val (Sv []),.val (.slice none 0 0),.val (.slice none 0 0)]) 6 rfl rfl rfl rfl rfl) (s_st [_,_,_,_,_,_,_,_] ?_)
   refine aops_nil (aw_seq (aw_region (s_fd ?_)))
   refine s_ld ?_
   refine s_nt ?_
   refine s_mv ?_
   obtain ⟨o9,j9,l5⟩:=bind_s l5
   refine aops_cutE 13 o9 (fun x9=>(⟨177,[],[(5,.one (.ptr 2 0)),(8,.one (.own 3)),(146,.one (.own 3)),(147,vI ((x3_0.length:Nat):Int)),(148,vI ((s5_0:Nat):Int)),(174,vB x9)],[(2,some (.box (zad a2))),(3,some (.row 64 3 x3_0.length (lsEl zbJ x3_0)))]⟩:ASt)) ?_ ?_
   ·refine aops_nil ?_
    refine aw_if l5 (fun c10 l5=>?_) (fun c10 l5=>?_)
    ·refine aw_seq (aw_region ?_)
     iterate 2 refine s_sa ?_
     refine aops_nil ?_
     cases sj l5
     replace j4:=onS_r j4
     cases sj j4
     replace h:=onS_r h
     cases sj h
     exact aw_ret ⟨rfl,rv (rn (.cons o1 (.cons o1 .nil)))⟩
    refine aw_skip (aw_region ?_)
    obtain ⟨g11,l5⟩:=ifp_s l5
    refine zaa rfl (ev_add rfl rfl rfl (nat_add g11)) (s_mv (aops_nil ?_))
    exact ⟨⟨(n5,(s5_0+1)),l5⟩,Nat.lt_succ_self _,wk⟩
   rcases co j9 with ⟨q9,j9⟩|⟨q9,j9⟩
   ·iterate 4 refine np q9 ?_
    iterate 7 refine aops_und rfl rfl rfl rfl rfl ?_
    refine np q9 ?_
    refine s_py q9 (aops_nil ?_)
    exact jx j9 wk
   refine y_fd q9 ?_
   refine y_ld q9 ?_
   refine y_cm q9 ?_
   refine y_mv q9 ?_
   obtain ⟨o12,j12,j9⟩:=bind_s j9
   refine aops_cutE 8 o12 (fun x12=>(⟨177,[],[(5,.one (.ptr 2 0)),(8,.one (.own 3)),(146,.one (.own 3)),(147,vI ((x3_0.length:Nat):Int)),(148,vI ((s5_0:Nat):Int)),(161,vB (!((x3_0.getD s5_0 default).reached))),(173,vB x12)],[(2,some (.box (zad a2))),(3,some (.row 64 3 x3_0.length (lsEl zbJ x3_0)))]⟩:ASt)) ?_ ?_
   ·refine s_pn q9 (aops_nil ?_)
    exact jx j9 wk
   rcases co j12 with ⟨q12,j12⟩|⟨q12,j12⟩
   ·refine y_fd q12 ?_
    refine y_ld q12 ?_
    refine y_fd q12 ?_
    refine y_ld q12 ?_
    obtain ⟨g13,j12⟩:=ifp_s j12
    refine aops_yes rfl rfl rfl rfl q12 (ev_shr rfl rfl rfl g13 (shr_u64 ((x3_0.getD s5_0 default).set) (int_toNat ((a2.Code.getD s5_0 default).A)))) ?_
    refine aops_yes rfl rfl rfl rfl q12 (ev_bits rfl rfl rfl rfl (and_u64 (shr64 ((x3_0.getD s5_0 default).set) ((((a2.Code.getD s5_0 default).A)).toNat)) (1:UInt64))) (y_cm q12 ?_)
    refine aops_yes rfl rfl rfl rfl q9 (zau rfl (by first|rfl|exact q12) rfl rfl) (aops_nil ?_)
    exact jx j12 wk
   iterate 7 refine np q12 ?_
   refine aops_yes rfl rfl rfl rfl q9 (zaz rfl (by first|rfl|exact q12) rfl rfl) (aops_nil ?_)
   exact jx j12 wk
  refine aw_exit ?_
  have e5:=sj l5
  subst e5
  replace j4:=onS_l j4
  show ∃_x:Unit,_=_∧Weak _ _
  exact ⟨(),sj j4,wk⟩
 refine aw_block ?_
 obtain ⟨o14,ho14,j3⟩:=bind_s j3
 refine aw_loop (ι:={p:Nat×(List Bytecodestate)×(List Int) // zbg k a0 a1 a2 p.1 p.2.1 p.2.2=some o14}) (fun p=>(⟨177,[],[(3,.one (.ptr 0 0)),(4,.one (.ptr 1 0)),(5,.one (.ptr 2 0)),(8,.one (.own 3)),(9,.one (.own 4))],[(0,some (.box [CV.ls zab a0.Types])),(1,some (.box (zab a1))),(2,some (.box (zad a2))),(3,some (.row 64 3 p.1.2.1.length (lsEl zbJ p.1.2.1))),(4,some (.row 3 1 p.1.2.2.length (lsEl c_Int p.1.2.2)))]⟩:ASt)) (fun p=>p.1.1) ⟨(k,((List.replicate a2.Code.length (⟨false,([]:List Int),(0:UInt64)⟩:Bytecodestate)).set 0 (⟨true,([]:List Int),((shl64 (1:UInt64) a2.Params.length) - (1:UInt64))⟩:Bytecodestate)),[0]),ho14⟩ wk ?_
 intro p14
 obtain ⟨⟨n14,s14_0,s14_1⟩,l14⟩:=p14
 replace l14:zbg k a0 a1 a2 n14 s14_0 s14_1=some o14:=l14
 rcases n14 with _|n14
 ·exact absurd (show none=some o14 from l14) nofun
 rw [zbg] at l14
 refine aw_seq (aw_seq (aw_region (s_mv ?_)))
 refine zaa rfl (zfk rfl rfl rfl) (s_cm (aops_nil ?_))
 refine aw_if l14 (fun c15 l14=>?_) (fun c15 l14=>?_)
 ·refine aw_skip (aw_block (aw_seq (aw_region ?_)))
  iterate 2 refine s_mv ?_
  refine zaa rfl (zfk rfl rfl rfl) (zaa rfl (ev_sub rfl rfl rfl (wrap_W _)) ?_)
  obtain ⟨g16,l14⟩:=ifp_s l14
  refine zaa rfl (zbI rfl rfl rfl (idx_eq g16) (idx_lt g16) rfl) (zaa rfl (zcD rfl rfl (idx_lt g16) rfl rfl) (s_sa (aops_nil (aw_seq (aw_region ?_)))))
  iterate 2 refine s_mv ?_
  refine zaa rfl (zfk rfl rfl rfl) (zaa rfl (ev_sub rfl rfl rfl (wrap_W _)) ?_)
  obtain ⟨g17,l14⟩:=ifp_s l14
  obtain ⟨g18,l14⟩:=ifp_s l14
  refine zaa rfl (st_shrink (f:=c_Int) rfl rfl ⟨_,_,rfl,(nn_eq g17)⟩ g18 rfl) (s_sa (aops_nil ?_))
  obtain ⟨g19,l14⟩:=ifp_s l14
  obtain ⟨g20,l14⟩:=ifp_s l14
  refine aw_seq ?_
  apply zio 12 [(11,[9,4,0,1,2,3,10],5,(c_Instr (a2.Code.getD (((s14_1.getD (((W (((s14_1.length:Nat):Int) - 1))).toNat) default)).toNat) default)))] ((⟨[],.one (.ptr 2 _)⟩:Add)::⟨[],.one (CV.ls c_Instr a2.Code)⟩::⟨[],vI (s14_1.getD (((W (((s14_1.length:Nat):Int) - 1))).toNat) default)⟩::⟨[],.one (.cptr _)⟩::⟨[],.agg (c_Instr (a2.Code.getD (((s14_1.getD (((W (((s14_1.length:Nat):Int) - 1))).toNat) default)).toNat) default))⟩::⟨[],.one (.own 3)⟩::⟨[],vI (s14_1.getD (((W (((s14_1.length:Nat):Int) - 1))).toNat) default)⟩::⟨[],.one (.rptr 3 _ _ _)⟩::⟨[],.agg (zbJ (s14_0.getD (((s14_1.getD (((W (((s14_1.length:Nat):Int) - 1))).toNat) default)).toNat) default))⟩::⟨[(5,some (.box [cI 0,cI 0,cI 0,cI 0,cI 0,.val (Sv []),.val (.slice none 0 0),.val (.slice none 0 0)]))],.one (.ptr 5 _)⟩::⟨[(6,some (.box [cB false,.val (.slice none 0 0),.val (.int .u64 0)]))],.one (.ptr 6 _)⟩::⟨[],.one .any⟩::[]) (by decide) rfl ?hk36x ?hf36x ?ho36x ?hv36x ?hr36x
  case ho36x =>
   refine ⟨.inr ⟨[],[],(by decide +kernel),(by decide +kernel),⟨?_,.inl rfl⟩⟩,?_⟩
   ·refine .inr (.inr fun S hle hfr=>?_)
    exact .inl ⟨w0,ev_field (hle.e rfl) rfl (hle.d rfl)⟩
   refine ⟨.inr ⟨0::[],[],(by decide +kernel),(by decide +kernel),⟨?_,.inl rfl⟩⟩,?_⟩
   ·refine .inr (.inr fun S hle hfr=>?_)
    exact .inl ⟨w0,ev_load (hle.e rfl) (hle.heap _ _ rfl) rfl (hle.d rfl)⟩
   refine ⟨.inr ⟨[],[],(by decide +kernel),(by decide +kernel),⟨?_,.inl rfl⟩⟩,?_⟩
   ·refine .inr (.inr fun S hle hfr=>?_)
    exact .inl ⟨w0,st_move (hle.e rfl) (hle.d rfl)⟩
   refine ⟨.inr ⟨1::2::0::[],[],(by decide +kernel),(by decide +kernel),⟨?_,.inl rfl⟩⟩,?_⟩
   ·refine .inr (.inr fun S hle hfr=>?_)
    exact .inl ⟨w0,zaf (hle.e rfl) (hle.e rfl) (idx_eq g19) (idx_lt g19) rfl (hle.d rfl)⟩
   refine ⟨.inr ⟨3::1::2::0::[],[],(by decide +kernel),(by decide +kernel),⟨?_,.inl rfl⟩⟩,?_⟩
   ·refine .inr (.inr fun S hle hfr=>?_)
    exact .inl ⟨w0,zaI (ds:=[_,_,_,_,_,_,_,_]) (hle.e rfl) rfl rfl (hle.d rfl)⟩
   refine ⟨.inr ⟨[],[],(by decide +kernel),(by decide +kernel),⟨?_,?_⟩⟩,?_⟩
   ·refine .inr (.inr fun S hle hfr=>?_)
    exact .inl ⟨w0,st_move (hle.e rfl) (hle.d rfl)⟩
   ·refine .inr fun S hle hfr=>?_
    exact .inl ⟨w0,st_move (hle.e rfl) (hle.d rfl)⟩
   refine ⟨.inr ⟨[],[],(by decide +kernel),(by decide +kernel),⟨?_,?_⟩⟩,?_⟩
   ·refine .inr (.inr fun S hle hfr=>?_)
    exact .inl ⟨w0,st_move (hle.e rfl) (hle.d rfl)⟩
   ·refine .inr fun S hle hfr=>?_
    exact .inl ⟨w0,st_move (hle.e rfl) (hle.d rfl)⟩
   refine ⟨.inr ⟨5::6::[],[],(by decide +kernel),(by decide +kernel),⟨?_,?_⟩⟩,?_⟩
   ·refine .inr (.inr fun S hle hfr=>?_)
    exact .inl ⟨w0,zbI (hle.e rfl) (hle.heap _ _ rfl) (hle.e rfl) (idx_eq g20) (idx_lt g20) (hle.d rfl)⟩
   ·refine .inr fun S hle hfr=>?_
    exact .inl ⟨w0,zbI (hle.e rfl) (hle.heap _ _ rfl) (hle.e rfl) (idx_eq g20) (idx_lt g20) (hle.d rfl)⟩
   refine ⟨.inr ⟨7::5::6::[],[],(by decide +kernel),(by decide +kernel),⟨?_,?_⟩⟩,?_⟩
   ·refine .inr (.inr fun S hle hfr=>?_)
    exact .inl ⟨w0,zfn (ds:=[_,_,_]) (hle.e rfl) (hle.heap _ _ rfl) (idx_lt g20) rfl rfl (hle.d rfl)⟩
   ·refine .inr fun S hle hfr=>?_
    exact .inl ⟨w0,zfn (ds:=[_,_,_]) (hle.e rfl) (hle.heap _ _ rfl) (idx_lt g20) rfl rfl (hle.d rfl)⟩
   refine ⟨.inr ⟨[],[],(by decide +kernel),(by decide +kernel),⟨?_,.inl rfl⟩⟩,?_⟩
   ·refine .inr (.inr fun S hle hfr=>?_)
    exact .inl ⟨w0,st_alloc (cs:=[cI 0,cI 0,cI 0,cI 0,cI 0,.val (Sv []),.val (.slice none 0 0),.val (.slice none 0 0)]) 5 (hfr _ (List.mem_singleton.2 rfl)) rfl rfl rfl (hle.d rfl)⟩
   refine ⟨.inr ⟨[],[],(by decide +kernel),(by decide +kernel),⟨?_,.inl rfl⟩⟩,?_⟩
   ·refine .inr (.inr fun S hle hfr=>?_)
    exact .inl ⟨w0,st_alloc (cs:=[cB false,.val (.slice none 0 0),.val (.int .u64 0)]) 6 (hfr _ (List.mem_singleton.2 rfl)) rfl rfl rfl (hle.d rfl)⟩
   refine ⟨.inl rfl,?_⟩
   exact trivial
  case hv36x =>
   refine ⟨⟨rfl,rfl,(by decide +kernel),rfl,rfl,_,_,rfl,rfl,rfl,fun S hle=>st_store (cs':=[_,_,_,_,_,_,_,_]) (hle.e rfl) (hle.heap _ _ rfl) (hle.e rfl) rfl rfl rfl rfl (hle.d rfl) rfl⟩,?_⟩
   exact trivial
  case hk36x=>rfl
  case hf36x=>rfl
  refine s_st [_,_,_] ?_
  refine aops_nil (aw_seq (aw_region (s_ls [_] ?_)))
  refine s_ls [_,_,_] ?_
  refine s_ls [_,_,_,_,_] ?_
  refine s_ls [_,_,_,_,_,_,_,_] ?_
  refine s_fd ?_
  refine s_ld ?_
  obtain ⟨x21,hx21,l14⟩:=bind_s l14
  refine zaa rfl (ev_call_v (zho hx21) rfl [] ai rfl rfl rfl (.inl rfl) rfl) (s_mt ?_)
  iterate 2 refine s_ex ?_
  iterate 2 refine s_sa ?_
  refine aops_nil (aw_seq (aw_region (s_ls [_,_,_,_,_] ?_)))
  refine s_mv ?_
  obtain ⟨x22,hx22,l14⟩:=bind_s l14
  refine zaa rfl (ev_call_v (zgu hx22) rfl [] ai rfl rfl rfl (.inl rfl) rfl) (s_mt ?_)
  iterate 2 refine s_ex ?_
  iterate 2 refine s_sa ?_
  refine aops_nil (aw_seq (aw_seq (aw_region (s_mv ?_))))
  refine s_nt ?_
  refine s_mv ?_
  refine bo 3 ((!x21.2)||(!x22.2)) ?_
  refine aops_nil ?_
  refine aw_if l14 (fun c24 l14=>?_) (fun c24 l14=>?_)
  ·refine aw_seq (aw_region ?_)
   iterate 2 refine s_sa ?_
   refine aops_nil ?_
   cases sj l14
   replace j3:=onS_r j3
   cases sj j3
   replace h:=onS_r h
   cases sj h
   exact aw_ret ⟨rfl,rv (rn (.cons o1 (.cons o1 .nil)))⟩
  refine aw_skip (aw_seq (aw_region (s_fd ?_)))
  refine s_ld ?_
  refine s_sa (aops_nil ?_)
  obtain ⟨o25,j25,l14⟩:=bind_s l14
  refine aw_cutE o25 (fun x=>(⟨177,[],[(3,.one (.ptr 0 0)),(4,.one (.ptr 1 0)),(5,.one (.ptr 2 0)),(8,.one (.own 3)),(9,.one (.own 4)),(13,.one (CV.ls c_Int x21.1)),(15,.one (CV.ls c_Int x22.1)),(17,.one (.val (.int .u64 (x.toNat:Int))))],[(0,some (.box [CV.ls zab a0.Types])),(1,some (.box (zab a1))),(2,some (.box (zad a2))),(3,some (.row 64 3 s14_0.length (lsEl zbJ s14_0))),(4,some (.row 3 1 (s14_1.take (((W (((s14_1.length:Nat):Int) - 1))).toNat)).length (lsEl c_Int (s14_1.take (((W (((s14_1.length:Nat):Int) - 1))).toNat)))))]⟩:ASt)) ?_ ?_
  ·refine aw_seq (aw_region (s_mv ?_))
   refine s_ln ?_
   refine s_mv (aops_nil (aw_block ?_))
   obtain ⟨o26,ho26,l14⟩:=bind_s l14
   refine aw_loop (ι:={p:Nat×Nat×(List Bytecodestate)×(List Int) // zck k x21 x22 o25 p.1 p.2.1 p.2.2.1 p.2.2.2=some o26}) (fun p=>(⟨177,[],[(3,.one (.ptr 0 0)),(4,.one (.ptr 1 0)),(5,.one (.ptr 2 0)),(8,.one (.own 3)),(9,.one (.own 4)),(13,.one (CV.ls c_Int x21.1)),(17,.one (.val (.int .u64 (o25.toNat:Int)))),(92,.one (CV.ls c_Int x22.1)),(93,vI ((x22.1.length:Nat):Int)),(94,vI ((p.1.2.1:Nat):Int))],[(0,some (.box [CV.ls zab a0.Types])),(1,some (.box (zab a1))),(2,some (.box (zad a2))),(3,some (.row 64 3 p.1.2.2.1.length (lsEl zbJ p.1.2.2.1))),(4,some (.row 3 1 p.1.2.2.2.length (lsEl c_Int p.1.2.2.2)))]⟩:ASt)) (fun p=>p.1.1) ⟨(k,0,s14_0,(s14_1.take (((W (((s14_1.length:Nat):Int) - 1))).toNat))),ho26⟩ wk ?_
   intro p26
   obtain ⟨⟨n26,s26_0,s26_1,s26_2⟩,l26⟩:=p26
   replace l26:zck k x21 x22 o25 n26 s26_0 s26_1 s26_2=some o26:=l26
   rcases n26 with _|n26
   ·exact absurd (show none=some o26 from l26) nofun
   rw [zck] at l26
   refine aw_seq (aw_region (s_cm (aops_nil (aw_seq ?_))))
   refine aw_if l26 (fun c27 l26=>?_) (fun c27 l26=>?_)
   ·refine aw_skip ?_
    obtain ⟨o28,j28,l26⟩:=bind_s l26
    refine aw_cut (ε:=((List Bytecodestate)×(List Int))) (fun x=>(⟨177,[],[(3,.one (.ptr 0 0)),(4,.one (.ptr 1 0)),(5,.one (.ptr 2 0)),(8,.one (.own 3)),(9,.one (.own 4)),(13,.one (CV.ls c_Int x21.1)),(17,.one (.val (.int .u64 (o25.toNat:Int)))),(92,.one (CV.ls c_Int x22.1)),(93,vI ((x22.1.length:Nat):Int)),(94,vI ((s26_0:Nat):Int))],[(0,some (.box [CV.ls zab a0.Types])),(1,some (.box (zab a1))),(2,some (.box (zad a2))),(3,some (.row 64 3 x.1.length (lsEl zbJ x.1))),(4,some (.row 3 1 x.2.length (lsEl c_Int x.2)))]⟩:ASt)) (fun x=>Sum.inl x=o28) ?_ ?_
    ·intro x28_0 hI28
     subst hI28
     replace l26:=onS_l l26
     refine aw_region ?_
     obtain ⟨g29,l26⟩:=ifp_s l26
     refine zaa rfl (ev_add rfl rfl rfl (nat_add g29)) (s_mv (aops_nil ?_))
     exact ⟨⟨(n26,(s26_0+1),x28_0.1,x28_0.2),l26⟩,Nat.lt_succ_self _,wk⟩
    refine aw_block (aw_seq (aw_region ?_))
    obtain ⟨g30,j28⟩:=ifp_s j28
    refine zaa rfl (zaf rfl rfl rfl g30 rfl rfl) (zaa rfl (zas rfl rfl rfl) (s_sa (aops_nil (aw_seq (aw_region ?_)))))
    iterate 2 refine s_mv ?_
    obtain ⟨g31,j28⟩:=ifp_s j28
    refine zaa rfl (zbI rfl rfl rfl (idx_eq g31) (idx_lt g31) rfl) (s_sa ?_)
    refine aops_nil (aw_seq (aw_seq (aw_region (s_mv ?_))))
    refine zaa rfl (zeN rfl rfl) (zaa rfl (zec rfl rfl rfl) (zaa rfl (zcD rfl rfl (idx_lt g31) rfl rfl) (s_nt (aops_nil ?_))))
    refine aw_if j28 (fun c32 j28=>?_) (fun c32 j28=>?_)
    ·refine aw_seq (aw_region ?_)
     iterate 3 refine s_mv ?_
     refine zaa rfl (ev_build' (out:=[_,_,_]) rfl rfl rfl rfl rfl) (zaa rfl (zeN rfl rfl) ?_)
     refine zaa rfl (zex (l:=s26_1) (f:=zbJ) (⟨true,x21.1,o25⟩:Bytecodestate) (fun _=>rfl) rfl rfl (idx_lt g31) rfl rfl (by repeat' (first|exact .nil|refine .cons ?_ ?_|exact .refl _|exact .nil _|fail)) rfl rfl rfl rfl rfl) ?_
     refine aops_nil (aw_seq (aw_region ?_))
     iterate 2 refine s_mv ?_
     refine zaa rfl (zac (el:=lsEl c_Int [(x22.1.getD s26_0 default)]) 7 rfl rfl rfl rfl rfl rfl rfl rfl (lit_el c_Int 1 [(x22.1.getD s26_0 default)] (fun _=>rfl)) rfl) ?_
     obtain ⟨g33,j28⟩:=ifp_s j28
     refine zaa rfl (st_app_ls (f:=c_Int) s26_2 [(x22.1.getD s26_0 default)] (fun _=>rfl) rfl rfl (.inr ⟨_,_,rfl,rfl⟩) (by omega) (by omega) rfl) (s_sa (aops_nil (aw_exit ?_)))
     show ∃_x:(List Bytecodestate)×(List Int),_=_∧Weak _ _
     exact ⟨((s26_1.set (((x22.1.getD s26_0 default)).toNat) (⟨true,x21.1,o25⟩:Bytecodestate)),(s26_2++[(x22.1.getD s26_0 default)])),sj j28,wk⟩
    refine aw_skip (aw_seq (aw_seq (aw_region (s_mv ?_))))
    refine zaa rfl (zeN rfl rfl) (zaa rfl (zec rfl rfl rfl) (zaa rfl (zcD rfl rfl (idx_lt g31) rfl rfl) (s_mv ?_)))
    obtain ⟨x34,hx34,j28⟩:=bind_s j28
    refine zaa rfl (ev_call_v (zdV hx34) rfl [] ai rfl rfl rfl (.inl rfl) rfl) (s_nt (aops_nil ?_))
    refine aw_if j28 (fun c35 j28=>?_) (fun c35 j28=>?_)
    ·refine aw_seq (aw_region ?_)
     iterate 2 refine s_sa ?_
     refine aops_nil ?_
     cases sj j28
     replace l26:=onS_r l26
     cases sj l26
     replace l14:=onS_r l14
     cases sj l14
     replace j3:=onS_r j3
     cases sj j3
     replace h:=onS_r h
     cases sj h
     exact aw_ret ⟨rfl,rv (rn (.cons o1 (.cons o1 .nil)))⟩
    refine aw_skip (aw_seq ?_)
    apply aw_draw 10 [ad _,ad _,ad _,ad _,ad _,ad _,ad _,ad _,ad _,ad _] (by decide) rfl ?hk42x ?hf42x ?ho42x ?hr42x
    case ho42x =>
     refine o_mv 0 ?_
     refine obn 1 (fun S hle hfr=>.inl ⟨w0,zeN (hle.e rfl) (hle.d rfl)⟩) ?_
     refine o_fr 3 ?_
     refine obn 7 (fun S hle hfr=>.inl ⟨w0,zcD (hle.e rfl) (hle.heap _ _ rfl) (idx_lt g31) rfl (hle.d rfl)⟩) ?_
     refine o_mv 0 ?_
     refine obn 31 (fun S hle hfr=>.inl ⟨w0,ev_bits (hle.e rfl) (hle.e rfl) (hle.d rfl) rfl (and_u64 ((s26_1.getD (((x22.1.getD s26_0 default)).toNat) default).set) o25)⟩) ?_
     refine o_mv 0 ?_
     refine obn 64 (fun S hle hfr=>.inl ⟨w0,zeN (hle.e rfl) (hle.d rfl)⟩) ?_
     refine o_fr 192 ?_
     refine obn 448 (fun S hle hfr=>.inl ⟨w0,zcD (hle.e rfl) (hle.heap _ _ rfl) (idx_lt g31) rfl (hle.d rfl)⟩) ?_
     exact trivial
    case hk42x=>rfl
    case hf42x=>rfl
    refine s_cm (aops_nil ?_)
    refine aw_if j28 (fun c36 j28=>?_) (fun c36 j28=>?_)
    ·refine aw_seq (aw_region (s_mv ?_))
     refine zaa rfl (zeN rfl rfl) (zaa rfl (zec rfl rfl rfl) (zaa rfl (zcD rfl rfl (idx_lt g31) rfl rfl) (s_mv ?_)))
     refine zaa rfl (ev_bits rfl rfl rfl rfl (and_u64 ((s26_1.getD (((x22.1.getD s26_0 default)).toNat) default).set) o25)) ?_
     refine zaa rfl (zeN rfl rfl) (zaa rfl (zec rfl rfl rfl) ?_)
     refine zaa rfl (zex (l:=s26_1) (f:=zbJ) (⟨((s26_1.getD (((x22.1.getD s26_0 default)).toNat) default).reached),((s26_1.getD (((x22.1.getD s26_0 default)).toNat) default).stack),(((s26_1.getD (((x22.1.getD s26_0 default)).toNat) default).set) &&& o25)⟩:Bytecodestate) (fun _=>rfl) rfl rfl (idx_lt g31) rfl rfl (by repeat' (first|exact .nil|refine .cons ?_ ?_|exact .refl _|exact .nil _|fail)) rfl rfl rfl rfl rfl) ?_
     refine aops_nil (aw_region ?_)
     iterate 2 refine s_mv ?_
     refine zaa rfl (zac (el:=lsEl c_Int [(x22.1.getD s26_0 default)]) 7 rfl rfl rfl rfl rfl rfl rfl rfl (lit_el c_Int 1 [(x22.1.getD s26_0 default)] (fun _=>rfl)) rfl) ?_
     obtain ⟨g37,j28⟩:=ifp_s j28
     refine zaa rfl (st_app_ls (f:=c_Int) s26_2 [(x22.1.getD s26_0 default)] (fun _=>rfl) rfl rfl (.inr ⟨_,_,rfl,rfl⟩) (by omega) (by omega) rfl) (s_sa (aops_nil ?_))
     show ∃_x:(List Bytecodestate)×(List Int),_=_∧Weak _ _
     exact ⟨((s26_1.set (((x22.1.getD s26_0 default)).toNat) (⟨((s26_1.getD (((x22.1.getD s26_0 default)).toNat) default).reached),((s26_1.getD (((x22.1.getD s26_0 default)).toNat) default).stack),(((s26_1.getD (((x22.1.getD s26_0 default)).toNat) default).set) &&& o25)⟩:Bytecodestate)),(s26_2++[(x22.1.getD s26_0 default)])),sj j28,wk⟩
    refine aw_skip ?_
    show ∃_x:(List Bytecodestate)×(List Int),_=_∧Weak _ _
    exact ⟨(s26_1,s26_2),sj j28,wk⟩
   refine aw_exit ?_
   have e26:=sj l26
   subst e26
   replace l14:=onS_l l14
   exact ⟨⟨(n14,s26_1,s26_2),l14⟩,Nat.lt_succ_self _,wk⟩
  refine aw_seq (aw_region (s_fd ?_))
  refine s_ld ?_
  refine s_cm (aops_nil ?_)
  refine aw_if j25 (fun c38 j25=>?_) (fun c38 j25=>?_)
  ·refine aw_region (s_mv ?_)
   refine s_fd ?_
   refine s_ld ?_
   obtain ⟨g39,j25⟩:=ifp_s j25
   refine zaa rfl (ev_shl rfl rfl rfl g39 (shl_u64 (1:UInt64) (int_toNat ((a2.Code.getD (((s14_1.getD (((W (((s14_1.length:Nat):Int) - 1))).toNat) default)).toNat) default).A)))) ?_
   refine zaa rfl (ev_bits rfl rfl rfl rfl (or_u64 ((s14_0.getD (((s14_1.getD (((W (((s14_1.length:Nat):Int) - 1))).toNat) default)).toNat) default).set) (shl64 (1:UInt64) ((((a2.Code.getD (((s14_1.getD (((W (((s14_1.length:Nat):Int) - 1))).toNat) default)).toNat) default).A)).toNat)))) (s_sa (aops_nil ?_))
   exact jx j25 wk
  refine aw_skip ?_
  exact jx j25 wk
 refine aw_exit ?_
 have e14:=sj l14
 subst e14
 replace j3:=onS_l j3
 show ∃_x:(List Bytecodestate),_=_∧Weak _ _
 exact ⟨s14_0,sj j3,wk⟩
end Md
end Go.Proofs.YtclffekkjfhpdaaGreat

