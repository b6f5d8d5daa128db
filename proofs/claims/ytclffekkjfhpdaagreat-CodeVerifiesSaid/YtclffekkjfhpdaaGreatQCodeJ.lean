import Derived.Test.YtclffekkjfhpdaaGreatQAbsSw
import Derived.Test.YtclffekkjfhpdaaGreatQMo
import Derived.Test.YtclffekkjfhpdaaGreatQTy
import Derived.Test.YtclffekkjfhpdaaGreatQAbsX
import Derived.Test.YtclffekkjfhpdaaGreatQCodeC
import Derived.Test.YtclffekkjfhpdaaGreatQCodeE
namespace Go.Proofs.YtclffekkjfhpdaaGreat
open Go.ChangeShapes Go.WideShapes Go.RowKit
open Abs
set_option linter.unusedVariables false
set_option linter.unusedSimpArgs false
set_option maxRecDepth 10000
namespace Md
set_option maxHeartbeats 2000000 in
theorem zhc {k:Nat} {a0:List UInt8} {r:Code×Int×Int} (h:zfG k a0=some r):FnC Tryz.prog 11 [.one (CV.ls byC a0)] [] (Det (.tup [.agg [CV.ls zab r.1.Types],vI r.2.1,vI r.2.2]) []):=by
 unfold zfG at h
 refine fn_intro' 49 Tryz.func11 rfl rfl rfl (aw_seq (aw_region (zaa rfl (st_alloc (cs:=[.val (.slice none 0 0)]) 0 rfl rfl rfl rfl rfl) ?_)))
 iterate 2 refine s_sa ?_
 refine aops_nil (aw_seq (aw_region (s_mv ?_)))
 refine zaa rfl (ev_build' (out:=[_,_]) rfl rfl rfl rfl rfl) (zaa rfl (st_box 1 rfl rfl rfl rfl) (s_sa ?_))
 refine aops_nil (aw_seq (aw_seq (aw_region (s_mv ?_))))
 obtain ⟨x1,hx1,h⟩:=bind_s h
 refine zaa rfl (ev_call_b [1] (zby hx1) rfl [] ai rfl rfl rfl rfl rfl rfl (.cons rfl .nil) rfl rfl rfl (.inl rfl) rfl) (s_sa ?_)
 refine aops_nil (aw_block (zey 0 0 2 44 3 (lsEl zab []) rfl rfl rfl ?_))
 obtain ⟨o2,ho2,h⟩:=bind_s h
 refine aw_loop_x (ι:={p:Nat×Int×Bytecodereader×(List CodeType) // zdh k p.1 p.2.1 p.2.2.1 p.2.2.2=some o2}) (fun p=>(⟨49,[],[(0,.one (CV.ls byC a0)),(2,.one (.ptr 0 0)),(5,.one (.ptr 1 0)),(6,vI p.1.2.1)],[(0,some (.box [.own 2])),(1,some (.box (zan p.1.2.2.1))),(2,some (.row 44 3 p.1.2.2.2.length (lsEl zab p.1.2.2.2)))]⟩:ASt)) (fun p=>p.1.1) ⟨(k,x1.1,x1.2,([]:List CodeType)),ho2⟩ wk 0 (ε:=(Bytecodereader×(List CodeType))) (fun x=>(⟨49,[],[(0,.one (CV.ls byC a0)),(2,.one (.ptr 0 0)),(5,.one (.ptr 1 0))],[(0,some (.box [.own 2])),(1,some (.box (zan x.1))),(2,some (.row 44 3 x.2.length (lsEl zab x.2)))]⟩:ASt)) (fun x=>x=o2) (fun _ _ w h=>aw_weak w h) ?_ ?_
 ·intro x2_0 hI2
  subst hI2
  refine aw_seq (aw_seq (aw_region (s_mv ?_)))
  refine zaa rfl (ev_nilc rfl rfl) (s_fd ?_)
  refine s_ld ?_
  refine s_mv ?_
  rcases co h with ⟨q3,h⟩|⟨q3,h⟩
  ·iterate 3 refine np q3 ?_
   refine s_py q3 ?_
   refine aops_nil (aw_yes rfl (rfl) (aw_seq (aw_region (zaa rfl (ev_build' (out:=[_]) rfl rfl rfl rfl rfl) (s_st [_] ?_)))))
   iterate 2 refine s_sa ?_
   refine aops_nil ?_
   cases sj h
   exact aw_ret ⟨rfl,rv (rn (.cons (va [_]) (.cons o1 (.cons o1 .nil))))⟩
  refine aops_yes rfl rfl rfl rfl q3 (ev_loads (ds:=[_]) rfl rfl rfl rfl rfl) ?_
  obtain ⟨x4,hx4,h⟩:=bind_s h
  refine zae 2 rfl (aops_yes rfl rfl rfl rfl q3 (ev_call_v (zem hx4) rfl [] ai rfl rfl rfl (.inl rfl) rfl) (y_nt q3 ?_))
  refine s_pn q3 (aops_nil ?_)
  refine aw_if h (fun c5 h=>?_) (fun c5 h=>?_)
  ·refine aw_seq (aw_region (zaa rfl (ev_build' (out:=[_]) rfl rfl rfl rfl rfl) (s_st [_] ?_)))
   iterate 2 refine s_sa ?_
   refine aops_nil ?_
   cases sj h
   exact aw_ret ⟨rfl,rv (rn (.cons (va [_]) (.cons o1 (.cons o1 .nil))))⟩
  refine aw_skip (aw_seq ?_)
  apply zhQ 10 [(9,[0],0,[CV.ls zab x2_0.2])] ((⟨[],.agg [CV.ls zab x2_0.2]⟩:Add)::⟨[],.one (CV.ls byC a0)⟩::⟨[],vI ((a0.length:Nat):Int)⟩::⟨[],.one (.ptr 1 _)⟩::⟨[],.one (.ptr 1 _)⟩::⟨[],.one (.ptr 1 _)⟩::⟨[],.one (CV.ls byC x2_0.1.b)⟩::⟨[],vI ((x2_0.1.b.length:Nat):Int)⟩::⟨[],vI (W (((a0.length:Nat):Int) - ((x2_0.1.b.length:Nat):Int)))⟩::⟨[],.one .any⟩::[]) (by decide) rfl ?hk7x ?hf7x ?ho7x ?hv7x ?hr7x
  case ho7x =>
   refine ⟨.inr ⟨[],[],(by decide +kernel),(by decide +kernel),⟨?_,.inl rfl⟩⟩,?_⟩
   ·refine .inr (.inr fun S hle hfr=>?_)
    exact .inl ⟨w0,ev_loads (ds:=[_]) (hle.e rfl) (hle.heap _ _ rfl) rfl rfl (hle.d rfl)⟩
   refine ⟨.inr ⟨[],[],(by decide +kernel),(by decide +kernel),⟨?_,?_⟩⟩,?_⟩
   ·refine .inr (.inr fun S hle hfr=>?_)
    exact .inl ⟨w0,st_move (hle.e rfl) (hle.d rfl)⟩
   ·refine .inr fun S hle hfr=>?_
    exact .inl ⟨w0,st_move (hle.e rfl) (hle.d rfl)⟩
   refine ⟨.inr ⟨1::[],[],(by decide +kernel),(by decide +kernel),⟨?_,?_⟩⟩,?_⟩
   ·refine .inr (.inr fun S hle hfr=>?_)
    exact .inl ⟨w0,zeV (hle.e rfl) (hle.d rfl)⟩
   ·refine .inr fun S hle hfr=>?_
    exact .inl ⟨w0,zeV (hle.e rfl) (hle.d rfl)⟩
   refine ⟨.inr ⟨[],[],(by decide +kernel),(by decide +kernel),⟨?_,?_⟩⟩,?_⟩
   ·refine .inr (.inr fun S hle hfr=>?_)
    exact .inl ⟨w0,st_move (hle.e rfl) (hle.d rfl)⟩
   ·refine .inr fun S hle hfr=>?_
    exact .inl ⟨w0,st_move (hle.e rfl) (hle.d rfl)⟩
   refine ⟨.inr ⟨3::[],[],(by decide +kernel),(by decide +kernel),⟨?_,?_⟩⟩,?_⟩
   ·refine .inr (.inr fun S hle hfr=>?_)
    exact .inl ⟨w0,ev_nilc (hle.e rfl) (hle.d rfl)⟩
   ·refine .inr fun S hle hfr=>?_
    exact .inl ⟨w0,ev_nilc (hle.e rfl) (hle.d rfl)⟩
   refine ⟨.inr ⟨4::3::[],[],(by decide +kernel),(by decide +kernel),⟨?_,?_⟩⟩,?_⟩
   ·refine .inr (.inr fun S hle hfr=>?_)
    exact .inl ⟨w0,ev_field (hle.e rfl) rfl (hle.d rfl)⟩
   ·refine .inr fun S hle hfr=>?_
    exact .inl ⟨w0,ev_field (hle.e rfl) rfl (hle.d rfl)⟩
   refine ⟨.inr ⟨5::4::3::[],[],(by decide +kernel),(by decide +kernel),⟨?_,?_⟩⟩,?_⟩
   ·refine .inr (.inr fun S hle hfr=>?_)
    exact .inl ⟨w0,ev_load (hle.e rfl) (hle.heap _ _ rfl) rfl (hle.d rfl)⟩
   ·refine .inr fun S hle hfr=>?_
    exact .inl ⟨w0,ev_load (hle.e rfl) (hle.heap _ _ rfl) rfl (hle.d rfl)⟩
   refine ⟨.inr ⟨6::5::4::3::[],[],(by decide +kernel),(by decide +kernel),⟨?_,?_⟩⟩,?_⟩
   ·refine .inr (.inr fun S hle hfr=>?_)
    exact .inl ⟨w0,zeV (hle.e rfl) (hle.d rfl)⟩
   ·refine .inr fun S hle hfr=>?_
    exact .inl ⟨w0,zeV (hle.e rfl) (hle.d rfl)⟩
   refine ⟨.inr ⟨2::7::1::6::5::4::3::[],[],(by decide +kernel),(by decide +kernel),⟨?_,?_⟩⟩,?_⟩
   ·refine .inr (.inr fun S hle hfr=>?_)
    exact .inl ⟨w0,ev_sub (hle.e rfl) (hle.e rfl) (hle.d rfl) (wrap_W _)⟩
   ·refine .inr fun S hle hfr=>?_
    exact .inl ⟨w0,ev_sub (hle.e rfl) (hle.e rfl) (hle.d rfl) (wrap_W _)⟩
   refine ⟨.inl rfl,?_⟩
   exact trivial
  case hv7x =>
   refine ⟨⟨rfl,rfl,(by decide +kernel),rfl,rfl,_,_,rfl,rfl,rfl,fun S hle=>st_store (cs':=[_]) (hle.e rfl) (hle.heap _ _ rfl) (hle.e rfl) rfl rfl rfl rfl (hle.d rfl) rfl⟩,?_⟩
   exact trivial
  case hk7x=>rfl
  case hf7x=>rfl
  iterate 2 refine s_sa ?_
  refine aops_nil ?_
  cases sj h
  exact aw_ret ⟨rfl,rv (rn (.cons (va [_]) (.cons o1 (.cons o1 .nil))))⟩
 intro p2
 obtain ⟨⟨n2,s2_0,s2_1,s2_2⟩,l2⟩:=p2
 replace l2:zdh k n2 s2_0 s2_1 s2_2=some o2:=l2
 rcases n2 with _|n2
 ·exact absurd (show none=some o2 from l2) nofun
 rw [zdh] at l2
 refine aw_seq (aw_seq (aw_region (s_mv ?_)))
 refine s_cm ?_
 refine s_mv ?_
 refine aops_mid 6 (⟨49,[],[(0,.one (CV.ls byC a0)),(2,.one (.ptr 0 0)),(5,.one (.ptr 1 0)),(6,vI s2_0),(20,vB ((decide (s2_0>0))&&(!s2_1.failed)))],[(0,some (.box [.own 2])),(1,some (.box (zan s2_1))),(2,some (.row 44 3 s2_2.length (lsEl zab s2_2)))]⟩:ASt) ?_ ?_
 ·rcases bool_or ((decide (s2_0>0))) with q6|q6
  ·skip
   refine y_mv q6 ?_
   refine aops_yes rfl rfl rfl rfl q6 (ev_nilc rfl rfl) (y_fd q6 ?_)
   refine y_ld q6 ?_
   refine y_nt q6 ?_
   refine s_py q6 (aops_nil ?_)
   exact wq q6
  iterate 5 refine np q6 ?_
  refine s_pn q6 (aops_nil ?_)
  exact wq q6
 refine aops_nil ?_
 refine aw_if l2 (fun c7 l2=>?_) (fun c7 l2=>?_)
 ·refine aw_skip (aw_seq (aw_block ?_))
  obtain ⟨x8,hx8,l2⟩:=bind_s l2
  obtain ⟨g9,l2⟩:=ifp_s l2
  apply zhe 5 [(3,[2])] ((⟨[],.one (.ptr 0 _)⟩:Add)::⟨[],.one (.own 2)⟩::⟨[],.one (.ptr 1 _)⟩::⟨[(1,some (.box (zan x8.2)))],.agg (zab x8.1)⟩::⟨[],.one (CV.ls zab [x8.1])⟩::[]) (by decide) rfl (by decide +kernel) ?hk9x ?hf9x ?ho9x ?hr9x
  case ho9x =>
   refine ⟨⟨[],(by decide +kernel),.inr ⟨(by decide +kernel),fun S hle hfr=>?_⟩⟩,?_⟩
   ·exact .inl ⟨w0,ev_field (hle.e rfl) rfl (hle.d rfl)⟩
   refine ⟨⟨0::[],(by decide +kernel),.inr ⟨(by decide +kernel),fun S hle hfr=>?_⟩⟩,?_⟩
   ·exact .inl ⟨w0,ev_load (hle.e rfl) (hle.heap _ _ rfl) rfl (hle.d rfl)⟩
   refine ⟨⟨[],(by decide +kernel),.inl ⟨(by decide +kernel),fun S hle hfr0=>?_⟩⟩,?_⟩
   ·exact .inl ⟨w0,st_move (hle.e rfl) (hle.d rfl)⟩
   refine ⟨⟨2::[],(by decide +kernel),.inl ⟨(by decide +kernel),fun S hle hfr0=>?_⟩⟩,?_⟩
   ·exact .inl ⟨w0,ev_call_b [1] (zgr hx8) (map_ev (.cons (hle.e rfl) (.nil))) [] (by repeat' (first|exact .nil|refine .cons ?_ ?_|refine .one ?_|refine .agg ?_|exact .mk rfl|exact .lend (hle.heap _ _ rfl) (by simp)|exact .le (.nil _) rfl|exact .le (.emp _) rfl|exact .le (.any _) rfl|fail)) rfl rfl rfl rfl rfl rfl (.cons (hle.heap _ _ rfl) .nil) rfl rfl rfl (.inl rfl) (hle.d rfl)⟩
   refine ⟨⟨3::2::[],(by decide +kernel),.inl ⟨(by decide +kernel),fun S hle hfr0=>?_⟩⟩,?_⟩
   ·exact .inl ⟨w0,zek (el:=lsEl zab [x8.1]) (map_ev2 (.cons (hle.e rfl) (.nil))) rfl rfl rfl rfl rfl rfl (lit_el zab 3 [x8.1] (fun _=>rfl)) (hle.d rfl)⟩
   exact trivial
  case hk9x=>rfl
  case hf9x=>rfl
  refine zaa rfl (st_app_ls (f:=zab) s2_2 [x8.1] (fun _=>rfl) rfl rfl (.inl rfl) (by omega) (by omega) rfl) (s_fd ?_)
  refine s_st [_] ?_
  refine aops_nil (aw_region (s_mv ?_))
  refine zaa rfl (ev_sub rfl rfl rfl (wrap_W _)) (s_sa (aops_nil ?_))
  exact ⟨⟨(n2,(W (s2_0 - 1)),x8.2,(s2_2++[x8.1])),l2⟩,Nat.lt_succ_self _,wk⟩
 refine aw_exit ?_
 show ∃_x:Bytecodereader×(List CodeType),_=_∧Weak _ _
 exact ⟨(s2_1,s2_2),sj l2,wk⟩
end Md
end Go.Proofs.YtclffekkjfhpdaaGreat

