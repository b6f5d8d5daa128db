import Derived.Test.YtclffekkjfhpdaaGreatQAbsSw
import Derived.Test.YtclffekkjfhpdaaGreatQMo
import Derived.Test.YtclffekkjfhpdaaGreatQTy
import Derived.Test.YtclffekkjfhpdaaGreatQAbsQ
import Derived.Test.YtclffekkjfhpdaaGreatQAbsG
import Derived.Test.YtclffekkjfhpdaaGreatQCodeC
import Derived.Test.YtclffekkjfhpdaaGreatQCodeD
namespace Go.Proofs.YtclffekkjfhpdaaGreat
open Go.ChangeShapes Go.WideShapes Go.RowKit
open Abs
set_option linter.unusedVariables false
set_option linter.unusedSimpArgs false
set_option maxRecDepth 10000
namespace Md
set_option maxHeartbeats 2000000 in
theorem zfO {k:Nat} {a0:Code} {r:(List UInt8)} (h:zeU k a0=some r):FnC Tryz.prog 12 [.agg [CV.ls zab a0.Types]] [] (Det (.one (.own 0)) [(0,some (.row 5 1 r.length (lsEl byC r)))]):=by
 unfold zeU at h
 refine fn_intro' 83 Tryz.func12 rfl rfl rfl (aw_seq (aw_region (zaa rfl (st_box 0 rfl rfl rfl rfl) (s_sa ?_))))
 refine aops_nil (aw_seq (aw_seq (aw_region (s_ls [_] ?_))))
 obtain ⟨x1,hx1,h⟩:=bind_s h
 refine zaa rfl (ev_call_v (zem hx1) rfl [] ai rfl rfl rfl (.inl rfl) rfl) (s_nt (aops_nil ?_))
 refine aw_if h (fun c2 h=>?_) (fun c2 h=>?_)
 ·refine aw_seq (aw_region (s_sa (aops_nil ?_)))
  cases sj h
  refine zfl 2 1 5 1 (lsEl byC []) rfl rfl ?_
  refine aw_ret ⟨rfl,ret_r 1 r1 rfl rfl rfl ?_ ?_ ?_⟩
  ·first|exact TLe.refl _|(repeat' (first|exact .refl _|exact .nil|refine .tup ?_|refine .v ?_|refine .cons ?_ ?_|refine .agg ?_|refine .one ?_|exact .nil _|exact .emp _|refine .val ?_|refine .slc ?_ ?_|fail))
  ·rfl
  ·rfl
 refine aw_skip (aw_seq (aw_region (zaa rfl (ev_build' (out:=[_]) rfl rfl rfl rfl rfl) (zaa rfl (st_box 1 rfl rfl rfl rfl) (s_sa ?_)))))
 refine aops_nil (aw_seq (aw_region (s_mv ?_)))
 refine s_fd ?_
 refine s_ld ?_
 refine s_ln ?_
 refine zhw 1 0 2 5 1 (lsEl byC []) rfl rfl rfl ?_
 obtain ⟨x3,hx3,h⟩:=bind_s h
 refine zaa rfl (ev_call_w 1 2 (zbx hx3) rfl [] ai rfl rfl rfl rfl rfl rfl (.inl rfl) rfl) (aops_nil (aw_seq (aw_seq (aw_region (s_fd ?_)))))
 refine s_ld ?_
 refine s_ln ?_
 refine s_mv (aops_nil (aw_block ?_))
 obtain ⟨o4,ho4,h⟩:=bind_s h
 refine aw_loop_x (ι:={p:Nat×Nat×(List UInt8) // zdj k a0 p.1 p.2.1 p.2.2=some o4}) (fun p=>(⟨83,[],[(3,.one (.ptr 1 0)),(21,.one (CV.ls zab a0.Types)),(22,vI ((a0.Types.length:Nat):Int)),(23,vI ((p.1.2.1:Nat):Int))],[(1,some (.box [.own 2])),(2,some (.row 5 1 p.1.2.2.length (lsEl byC p.1.2.2)))]⟩:ASt)) (fun p=>p.1.1) ⟨(k,0,x3.b),ho4⟩ wk 0 (ε:=(List UInt8)) (fun x=>(⟨83,[],[(3,.one (.ptr 1 0))],[(1,some (.box [.own 2])),(2,some (.row 5 1 x.length (lsEl byC x)))]⟩:ASt)) (fun x=>x=o4) (fun _ _ w h=>aw_weak w h) ?_ ?_
 ·intro x4_0 hI4
  subst hI4
  refine aw_seq (aw_region (s_mv ?_))
  refine zaa rfl (ev_nilc rfl rfl) (s_fd ?_)
  refine s_ld ?_
  refine s_sa (aops_nil ?_)
  cases sj h
  refine aw_ret ⟨rfl,ret_r 2 r1 rfl rfl rfl ?_ ?_ ?_⟩
  ·first|exact TLe.refl _|(repeat' (first|exact .refl _|exact .nil|refine .tup ?_|refine .v ?_|refine .cons ?_ ?_|refine .agg ?_|refine .one ?_|exact .nil _|exact .emp _|refine .val ?_|refine .slc ?_ ?_|fail))
  ·rfl
  ·rfl
 intro p4
 obtain ⟨⟨n4,s4_0,s4_1⟩,l4⟩:=p4
 replace l4:zdj k a0 n4 s4_0 s4_1=some o4:=l4
 rcases n4 with _|n4
 ·exact absurd (show none=some o4 from l4) nofun
 rw [zdj] at l4
 refine aw_seq (aw_region (s_cm (aops_nil (aw_seq ?_))))
 refine aw_if l4 (fun c5 l4=>?_) (fun c5 l4=>?_)
 ·refine aw_skip ?_
  obtain ⟨o6,j6,l4⟩:=bind_s l4
  refine aw_cutE o6 (fun x=>(⟨83,[],[(3,.one (.ptr 1 0)),(21,.one (CV.ls zab a0.Types)),(22,vI ((a0.Types.length:Nat):Int)),(23,vI ((s4_0:Nat):Int))],[(1,some (.box [.own 2])),(2,some (.row 5 1 x.length (lsEl byC x)))]⟩:ASt)) ?_ ?_
  ·refine aw_region ?_
   obtain ⟨g7,l4⟩:=ifp_s l4
   refine zaa rfl (ev_add rfl rfl rfl (nat_add g7)) (s_mv (aops_nil ?_))
   exact ⟨⟨(n4,(s4_0+1),o6),l4⟩,Nat.lt_succ_self _,wk⟩
  refine aw_block (aw_seq (aw_region ?_))
  obtain ⟨g8,j6⟩:=ifp_s j6
  refine zaa rfl (zaf rfl rfl rfl g8 rfl rfl) (zaa rfl (zaI (ds:=[_,_,_]) rfl rfl rfl rfl) ?_)
  refine zaa rfl (st_alloc (cs:=[.val (Sv []),.val (.slice none 0 0),.val (.slice none 0 0)]) 3 rfl rfl rfl rfl rfl) (s_st [_,_,_] ?_)
  refine aops_nil (aw_seq (aw_region (s_mv ?_)))
  refine s_fd ?_
  refine s_ld ?_
  obtain ⟨x9,hx9,j6⟩:=bind_s j6
  refine zaa rfl (ev_call_w 1 2 (zea hx9) rfl [] ai rfl rfl rfl rfl rfl rfl (.inl rfl) rfl) (aops_nil (aw_seq (aw_region (s_mv ?_))))
  refine s_fd ?_
  refine s_ld ?_
  refine s_ln ?_
  obtain ⟨x10,hx10,j6⟩:=bind_s j6
  refine zaa rfl (ev_call_w 1 2 (zbx hx10) rfl [] ai rfl rfl rfl rfl rfl rfl (.inl rfl) rfl) (aops_nil (aw_seq (aw_seq (aw_region (s_fd ?_)))))
  refine s_ld ?_
  refine s_ln ?_
  refine s_mv (aops_nil (aw_block ?_))
  obtain ⟨o11,ho11,j6⟩:=bind_s j6
  refine aw_loop_x (ι:={p:Nat×Nat×(List UInt8) // zdi k a0 s4_0 p.1 p.2.1 p.2.2=some o11}) (fun p=>(⟨83,[],[(3,.one (.ptr 1 0)),(5,.one (.ptr 3 0)),(21,.one (CV.ls zab a0.Types)),(22,vI ((a0.Types.length:Nat):Int)),(23,vI ((s4_0:Nat):Int)),(37,.one (CV.ls c_Field ((a0.Types.getD s4_0 default).Fields))),(38,vI ((((a0.Types.getD s4_0 default).Fields).length:Nat):Int)),(39,vI ((p.1.2.1:Nat):Int))],[(1,some (.box [.own 2])),(2,some (.row 5 1 p.1.2.2.length (lsEl byC p.1.2.2))),(3,some (.box (zab (a0.Types.getD s4_0 default))))]⟩:ASt)) (fun p=>p.1.1) ⟨(k,0,x10.b),ho11⟩ wk 2 (ε:=(List UInt8)) (fun x=>(⟨83,[],[(3,.one (.ptr 1 0)),(5,.one (.ptr 3 0)),(21,.one (CV.ls zab a0.Types)),(22,vI ((a0.Types.length:Nat):Int)),(23,vI ((s4_0:Nat):Int))],[(1,some (.box [.own 2])),(2,some (.row 5 1 x.length (lsEl byC x))),(3,some (.box (zab (a0.Types.getD s4_0 default))))]⟩:ASt)) (fun x=>x=o11) (fun _ _ w h=>aw_weak w h) ?_ ?_
  ·intro x11_0 hI11
   subst hI11
   refine aw_seq (aw_region (s_mv ?_))
   refine s_fd ?_
   refine s_ld ?_
   refine s_ln ?_
   obtain ⟨x12,hx12,j6⟩:=bind_s j6
   refine zaa rfl (ev_call_w 1 2 (zbx hx12) rfl [] ai rfl rfl rfl rfl rfl rfl (.inl rfl) rfl) (aops_nil (aw_seq (aw_region (s_fd ?_))))
   refine s_ld ?_
   refine s_ln ?_
   refine s_mv (aops_nil (aw_block ?_))
   obtain ⟨o13,ho13,j6⟩:=bind_s j6
   refine aw_loop (ι:={p:Nat×Nat×(List UInt8) // zdl k a0 s4_0 p.1 p.2.1 p.2.2=some o13}) (fun p=>(⟨83,[],[(3,.one (.ptr 1 0)),(21,.one (CV.ls zab a0.Types)),(22,vI ((a0.Types.length:Nat):Int)),(23,vI ((s4_0:Nat):Int)),(68,.one (CV.ls zad ((a0.Types.getD s4_0 default).Methods))),(69,vI ((((a0.Types.getD s4_0 default).Methods).length:Nat):Int)),(70,vI ((p.1.2.1:Nat):Int))],[(1,some (.box [.own 2])),(2,some (.row 5 1 p.1.2.2.length (lsEl byC p.1.2.2)))]⟩:ASt)) (fun p=>p.1.1) ⟨(k,0,x12.b),ho13⟩ wk ?_
   intro p13
   obtain ⟨⟨n13,s13_0,s13_1⟩,l13⟩:=p13
   replace l13:zdl k a0 s4_0 n13 s13_0 s13_1=some o13:=l13
   rcases n13 with _|n13
   ·exact absurd (show none=some o13 from l13) nofun
   rw [zdl] at l13
   refine aw_seq (aw_region (s_cm (aops_nil (aw_seq ?_))))
   refine aw_if l13 (fun c14 l13=>?_) (fun c14 l13=>?_)
   ·refine aw_skip (aw_seq (aw_block (aw_seq (aw_region ?_))))
    obtain ⟨g15,l13⟩:=ifp_s l13
    refine zaa rfl (zaf rfl rfl rfl g15 rfl rfl) (zaa rfl (zaI (ds:=[_,_,_,_,_]) rfl rfl rfl rfl) ?_)
    refine zaa rfl (st_alloc (cs:=[.val (Sv []),.val (.slice none 0 0),cI 0,.val (.slice none 0 0),.val (.slice none 0 0)]) 4 rfl rfl rfl rfl rfl) (s_st [_,_,_,_,_] ?_)
    refine aops_nil (aw_region (s_mv ?_))
    refine s_ls [_,_,_,_,_] ?_
    obtain ⟨x16,hx16,l13⟩:=bind_s l13
    refine zaa rfl (ev_call_w 1 2 (zfS hx16) rfl [] ai rfl rfl rfl rfl rfl rfl (.inl rfl) rfl) (aops_nil (aw_region ?_))
    obtain ⟨g17,l13⟩:=ifp_s l13
    refine zaa rfl (ev_add rfl rfl rfl (nat_add g17)) (s_mv (aops_nil ?_))
    exact ⟨⟨(n13,(s13_0+1),x16.b),l13⟩,Nat.lt_succ_self _,wk⟩
   refine aw_exit ?_
   have e13:=sj l13
   subst e13
   exact jx j6 wk
  intro p11
  obtain ⟨⟨n11,s11_0,s11_1⟩,l11⟩:=p11
  replace l11:zdi k a0 s4_0 n11 s11_0 s11_1=some o11:=l11
  rcases n11 with _|n11
  ·exact absurd (show none=some o11 from l11) nofun
  rw [zdi] at l11
  refine aw_seq (aw_region (s_cm (aops_nil (aw_seq ?_))))
  refine aw_if l11 (fun c18 l11=>?_) (fun c18 l11=>?_)
  ·refine aw_skip (aw_seq (aw_block (aw_seq (aw_region ?_))))
   obtain ⟨g19,l11⟩:=ifp_s l11
   refine zaa rfl (zaf rfl rfl rfl g19 rfl rfl) (zaa rfl (zaI (ds:=[_,_,_,_,_,_,_]) rfl rfl rfl rfl) ?_)
   refine zaa rfl (st_alloc (cs:=[.val (Sv []),cI 0,cI 0,cI 0,.val (Sv []),.val (.slice none 0 0),.val (.slice none 0 0)]) 4 rfl rfl rfl rfl rfl) (s_st [_,_,_,_,_,_,_] ?_)
   refine aops_nil (aw_seq (aw_region (s_mv ?_)))
   refine s_fd ?_
   refine s_ld ?_
   obtain ⟨x20,hx20,l11⟩:=bind_s l11
   refine zaa rfl (ev_call_w 1 2 (zea hx20) rfl [] ai rfl rfl rfl rfl rfl rfl (.inl rfl) rfl) (aops_nil (aw_seq (aw_region (s_mv ?_))))
   refine s_fd ?_
   refine s_ld ?_
   obtain ⟨x21,hx21,l11⟩:=bind_s l11
   refine zaa rfl (ev_call_w 1 2 (zbx hx21) rfl [] ai rfl rfl rfl rfl rfl rfl (.inl rfl) rfl) (aops_nil ?_)
   obtain ⟨x22,hx22,l11⟩:=bind_s l11
   apply aw_draw 8 ((⟨[],.one (.ptr 1 _)⟩:Add)::⟨[],.one (.ptr 1 _)⟩::⟨[],.one (.ptr 1 _)⟩::⟨[],.one (.ptr 1 _)⟩::⟨[],.one (.own 2)⟩::⟨[],.one (.ptr 4 _)⟩::⟨[],.agg (c_Value ((((a0.Types.getD s4_0 default).Fields).getD s11_0 default).Init))⟩::⟨[(5,some (.row 5 1 x22.length (lsEl byC x22)))],.one (.own 5)⟩::[]) (by decide) rfl ?hk36x ?hf36x ?ho36x ?hr36x
   case ho36x =>
    refine o_mv 0 ?_
    refine o_mv 0 ?_
    refine obn 2 (fun S hle hfr=>.inl ⟨w0,ev_nilc (hle.e rfl) (hle.d rfl)⟩) ?_
    refine o_fd 6 ?_
    refine o_ld 14 ?_
    refine o_fd 0 ?_
    refine obn 32 (fun S hle hfr=>.inl ⟨w0,ev_loads (ds:=[_,_,_,_,_]) (hle.e rfl) (hle.heap _ _ rfl) rfl rfl (hle.d rfl)⟩) ?_
    refine obn 126 (fun S hle hfr=>.inl ⟨w0,st_call_r (r':=.one (.own 5)) 5 (hfr _ (List.mem_singleton.2 rfl)) (zfs hx22) (map_ev (.cons (hle.e rfl) (.cons (hle.e rfl) (.nil)))) [2] (by repeat' (first|exact .nil|refine .cons ?_ ?_|refine .one ?_|refine .agg ?_|exact .mk rfl|exact .lend (hle.heap _ _ rfl) (by simp)|exact .le (.nil _) rfl|exact .le (.emp _) rfl|exact .le (.any _) rfl|fail)) rfl rfl rfl (.inr ⟨rfl,fun _ _=>rfl⟩) (hle.d rfl) rfl⟩) ?_
    exact trivial
   case hk36x=>rfl
   case hf36x=>rfl
   refine zaa rfl (ev_nilc rfl rfl) (s_fd ?_)
   refine s_st [_] ?_
   refine aops_swap 2 5 (aops_nil (aw_region ?_))
   obtain ⟨g23,l11⟩:=ifp_s l11
   refine zaa rfl (ev_add rfl rfl rfl (nat_add g23)) (s_mv (aops_nil ?_))
   exact ⟨⟨(n11,(s11_0+1),x22),l11⟩,Nat.lt_succ_self _,wk⟩
  refine aw_exit ?_
  show ∃_x:(List UInt8),_=_∧Weak _ _
  exact ⟨s11_1,sj l11,wk⟩
 refine aw_exit ?_
 show ∃_x:(List UInt8),_=_∧Weak _ _
 exact ⟨s4_1,sj l4,wk⟩
end Md
end Go.Proofs.YtclffekkjfhpdaaGreat

