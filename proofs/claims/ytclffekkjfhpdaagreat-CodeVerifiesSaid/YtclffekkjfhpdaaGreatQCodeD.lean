import Derived.Test.YtclffekkjfhpdaaGreatQAbsSw
import Derived.Test.YtclffekkjfhpdaaGreatQMo
import Derived.Test.YtclffekkjfhpdaaGreatQTy
import Derived.Test.YtclffekkjfhpdaaGreatQAbsQ
import Derived.Test.YtclffekkjfhpdaaGreatQAbsG
import Derived.Test.YtclffekkjfhpdaaGreatQCodeB
namespace Go.Proofs.YtclffekkjfhpdaaGreat
open Go.ChangeShapes Go.WideShapes Go.RowKit
open Abs
set_option linter.unusedVariables false
set_option linter.unusedSimpArgs false
set_option maxRecDepth 10000
namespace Md
set_option maxHeartbeats 2000000 in
theorem zez {k:Nat} {a0:List UInt8} {a1:Int} {r:(List UInt8)} (h:zeL k a0 a1=some r):FnC Tryz.prog 63 [.one (CV.ls byC a0),vI a1] [] (Det (.one (.own 0)) [(0,some (.row 5 1 r.length (lsEl byC r)))]):=by
 unfold zeL at h
 refine fn_intro' 17 Tryz.func63 rfl rfl rfl (aw_seq (aw_region (s_sa ?_)))
 refine aops_nil (aw_seq (aw_region (s_mv ?_)))
 refine s_ln ?_
 refine s_mv ?_
 refine s_ln ?_
 refine s_mv ?_
 refine zaa rfl (ev_add rfl rfl rfl (wrap_W _)) ?_
 obtain ⟨g1,h⟩:=ifp_s h
 obtain ⟨g2,h⟩:=ifp_s h
 obtain ⟨g3,h⟩:=ifp_s h
 refine zaa rfl (st_make (f:=byC) 0 a0.length (((W (((a0.length:Nat):Int)+a1))).toNat) (0:UInt8) rfl rfl (ev_nn rfl g1) g3 g2 rfl rfl rfl (fun _=>rfl) (by decide) rfl) (s_sa (aops_nil (aw_seq (aw_region ?_))))
 iterate 2 refine s_mv ?_
 refine zaa rfl (st_copy (f:=byC) (List.replicate a0.length (0:UInt8)) a0 (fun _=>rfl) rfl rfl (.inl rfl) rfl) (aops_nil (aw_seq (aw_region (s_mv ?_))))
 refine s_sa (aops_nil ?_)
 cases sj h
 refine aw_ret ⟨rfl,ret_r 0 r1 rfl rfl rfl ?_ ?_ ?_⟩
 ·first|exact TLe.refl _|(repeat' (first|exact .refl _|exact .nil|refine .tup ?_|refine .v ?_|refine .cons ?_ ?_|refine .agg ?_|refine .one ?_|exact .nil _|exact .emp _|refine .val ?_|refine .slc ?_ ?_|fail))
 ·rfl
 ·rfl
set_option maxHeartbeats 2000000 in
theorem zes {k:Nat} {a0:List UInt8} {a1:UInt64} {r:(List UInt8)} (h:zet k a0 a1=some r):FnC Tryz.prog 94 [.one (.own 0),.one (.val (.int .u64 (a1.toNat:Int)))] [(0,some (.row 5 1 a0.length (lsEl byC a0)))] (Det (.one (.own 0)) [(0,some (.row 5 1 r.length (lsEl byC r)))]):=by
 unfold zet at h
 refine fn_intro' 20 Tryz.func94 rfl rfl rfl (aw_seq (aw_region (s_sa ?_)))
 refine aops_nil ?_
 obtain ⟨o1,j1,h⟩:=bind_s h
 refine aw_cutE o1 (fun x=>(⟨20,[],[(0,.one (.own 0)),(1,.one (.val (.int .u64 (x.1.toNat:Int))))],[(0,some (.row 5 1 x.2.length (lsEl byC x.2)))]⟩:ASt)) ?_ ?_
 ·refine aw_seq (aw_region ?_)
  iterate 2 refine s_mv ?_
  refine zaa rfl (zco rfl rfl Tryz.underlying107 Tryz.underlying5 (zhM o1.1)) ?_
  refine zaa rfl (zac (el:=lsEl byC [(o1.1.toUInt8)]) 1 rfl rfl rfl rfl rfl rfl rfl rfl (lit_el byC 1 [(o1.1.toUInt8)] (fun _=>rfl)) rfl) ?_
  obtain ⟨g2,h⟩:=ifp_s h
  refine zaa rfl (st_app_ls (f:=byC) o1.2 [(o1.1.toUInt8)] (fun _=>rfl) rfl rfl (.inr ⟨_,_,rfl,rfl⟩) (by omega) (by omega) rfl) (s_sa (aops_nil ?_))
  cases sj h
  refine aw_ret ⟨rfl,ret_r 0 r1 rfl rfl rfl ?_ ?_ ?_⟩
  ·first|exact TLe.refl _|(repeat' (first|exact .refl _|exact .nil|refine .tup ?_|refine .v ?_|refine .cons ?_ ?_|refine .agg ?_|refine .one ?_|exact .nil _|exact .emp _|refine .val ?_|refine .slc ?_ ?_|fail))
  ·rfl
  ·rfl
 refine aw_block ?_
 obtain ⟨o3,ho3,j1⟩:=bind_s j1
 refine aw_loop (ι:={p:Nat×UInt64×(List UInt8) // zdM k p.1 p.2.1 p.2.2=some o3}) (fun p=>(⟨20,[],[(0,.one (.own 0)),(1,.one (.val (.int .u64 (p.1.2.1.toNat:Int))))],[(0,some (.row 5 1 p.1.2.2.length (lsEl byC p.1.2.2)))]⟩:ASt)) (fun p=>p.1.1) ⟨(k,a1,a0),ho3⟩ wk ?_
 intro p3
 obtain ⟨⟨n3,s3_0,s3_1⟩,l3⟩:=p3
 replace l3:zdM k n3 s3_0 s3_1=some o3:=l3
 rcases n3 with _|n3
 ·exact absurd (show none=some o3 from l3) nofun
 rw [zdM] at l3
 refine aw_seq (aw_seq (aw_region (s_mv ?_)))
 refine s_cm (aops_nil ?_)
 refine aw_if l3 (fun c4 l3=>?_) (fun c4 l3=>?_)
 ·refine aw_skip (aw_block (aw_seq (aw_region ?_)))
  iterate 2 refine s_mv ?_
  refine zaa rfl (zco rfl rfl Tryz.underlying107 Tryz.underlying5 (zhM s3_0)) ?_
  refine zaa rfl (ev_bits rfl rfl rfl rfl (or_u8 (s3_0.toUInt8) (128:UInt8))) ?_
  refine zaa rfl (zac (el:=lsEl byC [((s3_0.toUInt8) ||| (128:UInt8))]) 1 rfl rfl rfl rfl rfl rfl rfl rfl (lit_el byC 1 [((s3_0.toUInt8) ||| (128:UInt8))] (fun _=>rfl)) rfl) ?_
  obtain ⟨g5,l3⟩:=ifp_s l3
  refine zaa rfl (st_app_ls (f:=byC) s3_1 [((s3_0.toUInt8) ||| (128:UInt8))] (fun _=>rfl) rfl rfl (.inr ⟨_,_,rfl,rfl⟩) (by omega) (by omega) rfl) (s_sa ?_)
  refine aops_nil (aw_region (s_mv ?_))
  refine zaa rfl (ev_shr rfl rfl rfl (by decide) (shr_u64 s3_0 (nat_toNat 7))) (s_sa (aops_nil ?_))
  exact ⟨⟨(n3,(shr64 s3_0 7),(s3_1++[((s3_0.toUInt8) ||| (128:UInt8))])),l3⟩,Nat.lt_succ_self _,wk⟩
 refine aw_exit ?_
 have e3:=sj l3
 subst e3
 exact jx j1 wk
set_option maxHeartbeats 2000000 in
theorem zhi {k:Nat} {a0:List UInt8} {a1:UInt64} {r:(List UInt8)} (h:zfF k a0 a1=some r):FnC Tryz.prog 60 [.one (CV.ls byC a0),.one (.val (.int .u64 (a1.toNat:Int)))] [] (Det (.one (.own 0)) [(0,some (.row 5 1 r.length (lsEl byC r)))]):=by
 unfold zfF at h
 refine fn_intro' 9 Tryz.func60 rfl rfl rfl (aw_seq (aw_region (s_sa ?_)))
 refine aops_nil (aw_seq (aw_region (s_mv ?_)))
 obtain ⟨x1,hx1,h⟩:=bind_s h
 refine zaa rfl (st_call_r (r':=.one (.own 0)) 0 rfl (zez hx1) rfl [] ai rfl rfl rfl (.inl rfl) rfl rfl) (s_mv ?_)
 obtain ⟨x2,hx2,h⟩:=bind_s h
 refine zaa rfl (st_call_o (r':=.one (.own 0)) 0 rfl (zes hx2) rfl [] ai rfl rfl rfl (.inl rfl) rfl rfl) (s_sa (aops_nil ?_))
 cases sj h
 refine aw_ret ⟨rfl,ret_r 0 r1 rfl rfl rfl ?_ ?_ ?_⟩
 ·first|exact TLe.refl _|(repeat' (first|exact .refl _|exact .nil|refine .tup ?_|refine .v ?_|refine .cons ?_ ?_|refine .agg ?_|refine .one ?_|exact .nil _|exact .emp _|refine .val ?_|refine .slc ?_ ?_|fail))
 ·rfl
 ·rfl
set_option maxHeartbeats 2000000 in
theorem zbx {k:Nat} {a0:Bytecodewriter} {a1:Int} {r:Bytecodewriter} (h:zbt k a0 a1=some r):FnC Tryz.prog 23 [.one (.ptr 0 0),vI a1] (boxRow 5 1 a0.b.length (lsEl byC a0.b)) (Det (.tup []) (boxRow 5 1 r.b.length (lsEl byC r.b))):=by
 unfold zbt at h
 refine fn_intro' 14 Tryz.func23 rfl rfl rfl (aw_region ?_)
 iterate 2 refine s_mv ?_
 refine zaa rfl (ev_nilc rfl rfl) (s_fd ?_)
 refine s_ld ?_
 refine s_mv ?_
 refine zaa rfl (zco rfl rfl Tryz.underlying3 Tryz.underlying107 (ofInt_u64 a1)) ?_
 obtain ⟨x1,hx1,h⟩:=bind_s h
 refine zaa rfl (st_call_r (r':=.one (.own 2)) 2 rfl (zhi hx1) rfl [1] ai rfl rfl rfl (.inr ⟨rfl,fun _ _=>rfl⟩) rfl rfl) ?_
 refine zaa rfl (ev_nilc rfl rfl) (s_fd ?_)
 refine s_st [_] ?_
 refine aops_swap 1 2 (aops_nil ?_)
 cases sj h
 refine ⟨rfl,ret_w 1 (rn (.nil)) rfl rfl (fun _=>rfl) rfl rfl rfl rfl ?_⟩
 (repeat' (first|exact .refl _|exact .nil|refine .tup ?_|refine .v ?_|refine .cons ?_ ?_|refine .agg ?_|refine .one ?_|exact .nil _|exact .emp _|refine .val ?_|refine .slc ?_ ?_|fail))
set_option maxHeartbeats 2000000 in
theorem zfb {k:Nat} {a0:List UInt8} {a1:List UInt8} {r:(List UInt8)} (h:zeG k a0 a1=some r):FnC Tryz.prog 65 [.one (.own 0),.one (.val (Sv a1))] [(0,some (.row 5 1 a0.length (lsEl byC a0)))] (Det (.one (.own 0)) [(0,some (.row 5 1 r.length (lsEl byC r)))]):=by
 unfold zeG at h
 refine fn_intro' 12 Tryz.func65 rfl rfl rfl (aw_seq (aw_region (s_sa ?_)))
 refine aops_nil (aw_seq (aw_region ?_))
 iterate 2 refine s_mv ?_
 refine zaa rfl (zdg rfl rfl) (zaa rfl (zco rfl rfl Tryz.underlying3 Tryz.underlying107 (ofNat_u64 a1.length)) ?_)
 obtain ⟨x1,hx1,h⟩:=bind_s h
 refine zaa rfl (st_call_o (r':=.one (.own 0)) 0 rfl (zes hx1) rfl [] ai rfl rfl rfl (.inl rfl) rfl rfl) (s_mv ?_)
 obtain ⟨g2,h⟩:=ifp_s h
 refine zaa rfl (ziM x1 a1 rfl rfl rfl g2 rfl) (s_sa (aops_nil ?_))
 cases sj h
 refine aw_ret ⟨rfl,ret_r 0 r1 rfl rfl rfl ?_ ?_ ?_⟩
 ·first|exact TLe.refl _|(repeat' (first|exact .refl _|exact .nil|refine .tup ?_|refine .v ?_|refine .cons ?_ ?_|refine .agg ?_|refine .one ?_|exact .nil _|exact .emp _|refine .val ?_|refine .slc ?_ ?_|fail))
 ·rfl
 ·rfl
set_option maxHeartbeats 2000000 in
theorem zgK {k:Nat} {a0:List UInt8} {a1:List UInt8} {r:(List UInt8)} (h:zff k a0 a1=some r):FnC Tryz.prog 61 [.one (CV.ls byC a0),.one (.val (Sv a1))] [] (Det (.one (.own 0)) [(0,some (.row 5 1 r.length (lsEl byC r)))]):=by
 unfold zff at h
 refine fn_intro' 12 Tryz.func61 rfl rfl rfl (aw_seq (aw_region (s_sa ?_)))
 refine aops_nil (aw_seq (aw_region ?_))
 iterate 2 refine s_mv ?_
 refine zaa rfl (zdg rfl rfl) ?_
 obtain ⟨g1,h⟩:=ifp_s h
 refine zaa rfl (ev_add rfl rfl rfl (nat_add g1)) ?_
 obtain ⟨x2,hx2,h⟩:=bind_s h
 refine zaa rfl (st_call_r (r':=.one (.own 0)) 0 rfl (zez hx2) rfl [] ai rfl rfl rfl (.inl rfl) rfl rfl) (s_mv ?_)
 obtain ⟨x3,hx3,h⟩:=bind_s h
 refine zaa rfl (st_call_o (r':=.one (.own 0)) 0 rfl (zfb hx3) rfl [] ai rfl rfl rfl (.inl rfl) rfl rfl) (s_sa (aops_nil ?_))
 cases sj h
 refine aw_ret ⟨rfl,ret_r 0 r1 rfl rfl rfl ?_ ?_ ?_⟩
 ·first|exact TLe.refl _|(repeat' (first|exact .refl _|exact .nil|refine .tup ?_|refine .v ?_|refine .cons ?_ ?_|refine .agg ?_|refine .one ?_|exact .nil _|exact .emp _|refine .val ?_|refine .slc ?_ ?_|fail))
 ·rfl
 ·rfl
set_option maxHeartbeats 2000000 in
theorem zea {k:Nat} {a0:Bytecodewriter} {a1:List UInt8} {r:Bytecodewriter} (h:zdo k a0 a1=some r):FnC Tryz.prog 24 [.one (.ptr 0 0),.one (.val (Sv a1))] (boxRow 5 1 a0.b.length (lsEl byC a0.b)) (Det (.tup []) (boxRow 5 1 r.b.length (lsEl byC r.b))):=by
 unfold zdo at h
 refine fn_intro' 13 Tryz.func24 rfl rfl rfl (aw_region ?_)
 iterate 2 refine s_mv ?_
 refine zaa rfl (ev_nilc rfl rfl) (s_fd ?_)
 refine s_ld ?_
 refine s_mv ?_
 obtain ⟨x1,hx1,h⟩:=bind_s h
 refine zaa rfl (st_call_r (r':=.one (.own 2)) 2 rfl (zgK hx1) rfl [1] ai rfl rfl rfl (.inr ⟨rfl,fun _ _=>rfl⟩) rfl rfl) ?_
 refine zaa rfl (ev_nilc rfl rfl) (s_fd ?_)
 refine s_st [_] ?_
 refine aops_swap 1 2 (aops_nil ?_)
 cases sj h
 refine ⟨rfl,ret_w 1 (rn (.nil)) rfl rfl (fun _=>rfl) rfl rfl rfl rfl ?_⟩
 (repeat' (first|exact .refl _|exact .nil|refine .tup ?_|refine .v ?_|refine .cons ?_ ?_|refine .agg ?_|refine .one ?_|exact .nil _|exact .emp _|refine .val ?_|refine .slc ?_ ?_|fail))
set_option maxHeartbeats 2000000 in
theorem zgT {k:Nat} {a0:List UInt8} {a1:Int} {r:(List UInt8)} (h:zgw k a0 a1=some r):FnC Tryz.prog 64 [.one (.own 0),vI a1] [(0,some (.row 5 1 a0.length (lsEl byC a0)))] (Det (.one (.own 0)) [(0,some (.row 5 1 r.length (lsEl byC r)))]):=by
 unfold zgw at h
 refine fn_intro' 14 Tryz.func64 rfl rfl rfl (aw_seq (aw_region (s_sa ?_)))
 refine aops_nil (aw_seq (aw_region ?_))
 iterate 2 refine s_mv ?_
 refine zaa rfl (zco rfl rfl Tryz.underlying3 Tryz.underlying107 (ofInt_u64 a1)) ?_
 refine zaa rfl (ev_shl rfl rfl rfl (by decide) (shl_u64 (UInt64.ofInt a1) (nat_toNat 1))) (s_mv ?_)
 refine zaa rfl (ev_shr rfl rfl rfl (by decide) (ishr_i64 a1 (nat_toNat 63))) ?_
 refine zaa rfl (zco rfl rfl Tryz.underlying3 Tryz.underlying107 (ofInt_u64 (ishr a1 63))) ?_
 refine zaa rfl (ev_bits rfl rfl rfl rfl (xor_u64 (shl64 (UInt64.ofInt a1) 1) (UInt64.ofInt (ishr a1 63)))) ?_
 obtain ⟨x1,hx1,h⟩:=bind_s h
 refine zaa rfl (st_call_o (r':=.one (.own 0)) 0 rfl (zes hx1) rfl [] ai rfl rfl rfl (.inl rfl) rfl rfl) (s_sa (aops_nil ?_))
 cases sj h
 refine aw_ret ⟨rfl,ret_r 0 r1 rfl rfl rfl ?_ ?_ ?_⟩
 ·first|exact TLe.refl _|(repeat' (first|exact .refl _|exact .nil|refine .tup ?_|refine .v ?_|refine .cons ?_ ?_|refine .agg ?_|refine .one ?_|exact .nil _|exact .emp _|refine .val ?_|refine .slc ?_ ?_|fail))
 ·rfl
 ·rfl
set_option maxHeartbeats 2000000 in
theorem zeP {k:Nat} {a0:List UInt8} {a1:List Int} {r:(List UInt8)} (h:zeq k a0 a1=some r):FnC Tryz.prog 66 [.one (CV.ls byC a0),.one (CV.ls c_Int a1)] [] (Det (.one (.own 0)) [(0,some (.row 5 1 r.length (lsEl byC r)))]):=by
 unfold zeq at h
 refine fn_intro' 29 Tryz.func66 rfl rfl rfl (aw_seq (aw_region (s_sa ?_)))
 refine aops_nil (aw_seq (aw_region ?_))
 iterate 2 refine s_mv ?_
 refine s_ln ?_
 obtain ⟨g1,h⟩:=ifp_s h
 refine zaa rfl (ev_mul rfl rfl rfl (nat_mul g1)) ?_
 obtain ⟨g2,h⟩:=ifp_s h
 refine zaa rfl (ev_add rfl rfl rfl (nat_add g2)) ?_
 obtain ⟨x3,hx3,h⟩:=bind_s h
 refine zaa rfl (st_call_r (r':=.one (.own 0)) 0 rfl (zez hx3) rfl [] ai rfl rfl rfl (.inl rfl) rfl rfl) (s_mv ?_)
 refine s_ln ?_
 refine zaa rfl (zco rfl rfl Tryz.underlying3 Tryz.underlying107 (ofNat_u64 a1.length)) ?_
 obtain ⟨x4,hx4,h⟩:=bind_s h
 refine zaa rfl (st_call_o (r':=.one (.own 0)) 0 rfl (zes hx4) rfl [] ai rfl rfl rfl (.inl rfl) rfl rfl) (s_sa ?_)
 refine aops_nil (aw_seq (aw_seq (aw_region (s_mv ?_))))
 refine s_ln ?_
 refine s_mv (aops_nil (aw_block ?_))
 obtain ⟨o5,ho5,h⟩:=bind_s h
 refine aw_loop_x (ι:={p:Nat×Nat×(List UInt8) // zdk k a1 p.1 p.2.1 p.2.2=some o5}) (fun p=>(⟨29,[],[(5,.one (.own 0)),(18,.one (CV.ls c_Int a1)),(19,vI ((a1.length:Nat):Int)),(20,vI ((p.1.2.1:Nat):Int))],[(0,some (.row 5 1 p.1.2.2.length (lsEl byC p.1.2.2)))]⟩:ASt)) (fun p=>p.1.1) ⟨(k,0,x4),ho5⟩ wk 0 (ε:=(List UInt8)) (fun x=>(⟨29,[],[(5,.one (.own 0))],[(0,some (.row 5 1 x.length (lsEl byC x)))]⟩:ASt)) (fun x=>x=o5) (fun _ _ w h=>aw_weak w h) ?_ ?_
 ·intro x5_0 hI5
  subst hI5
  refine aw_seq (aw_region (s_mv ?_))
  refine s_sa (aops_nil ?_)
  cases sj h
  refine aw_ret ⟨rfl,ret_r 0 r1 rfl rfl rfl ?_ ?_ ?_⟩
  ·first|exact TLe.refl _|(repeat' (first|exact .refl _|exact .nil|refine .tup ?_|refine .v ?_|refine .cons ?_ ?_|refine .agg ?_|refine .one ?_|exact .nil _|exact .emp _|refine .val ?_|refine .slc ?_ ?_|fail))
  ·rfl
  ·rfl
 intro p5
 obtain ⟨⟨n5,s5_0,s5_1⟩,l5⟩:=p5
 replace l5:zdk k a1 n5 s5_0 s5_1=some o5:=l5
 rcases n5 with _|n5
 ·exact absurd (show none=some o5 from l5) nofun
 rw [zdk] at l5
 refine aw_seq (aw_region (s_cm (aops_nil (aw_seq ?_))))
 refine aw_if l5 (fun c6 l5=>?_) (fun c6 l5=>?_)
 ·refine aw_skip (aw_seq (aw_block (aw_seq (aw_region ?_))))
  obtain ⟨g7,l5⟩:=ifp_s l5
  refine zaa rfl (zaf rfl rfl rfl g7 rfl rfl) (zaa rfl (zas rfl rfl rfl) (s_sa (aops_nil (aw_region ?_))))
  iterate 2 refine s_mv ?_
  obtain ⟨x8,hx8,l5⟩:=bind_s l5
  refine zaa rfl (st_call_o (r':=.one (.own 0)) 0 rfl (zgT hx8) rfl [] ai rfl rfl rfl (.inl rfl) rfl rfl) (s_sa (aops_nil (aw_region ?_)))
  obtain ⟨g9,l5⟩:=ifp_s l5
  refine zaa rfl (ev_add rfl rfl rfl (nat_add g9)) (s_mv (aops_nil ?_))
  exact ⟨⟨(n5,(s5_0+1),x8),l5⟩,Nat.lt_succ_self _,wk⟩
 refine aw_exit ?_
 show ∃_x:(List UInt8),_=_∧Weak _ _
 exact ⟨s5_1,sj l5,wk⟩
set_option maxHeartbeats 2000000 in
theorem zgC {k:Nat} {a0:List UInt8} {a1:List (List UInt8)} {r:(List UInt8)} (h:zeO k a0 a1=some r):FnC Tryz.prog 67 [.one (CV.ls byC a0),.one (CV.ls c_Str a1)] [] (Det (.one (.own 0)) [(0,some (.row 5 1 r.length (lsEl byC r)))]):=by
 unfold zeO at h
 refine fn_intro' 29 Tryz.func67 rfl rfl rfl (aw_seq (aw_region (s_sa ?_)))
 refine aops_nil (aw_seq (aw_region ?_))
 iterate 2 refine s_mv ?_
 refine s_ln ?_
 obtain ⟨g1,h⟩:=ifp_s h
 refine zaa rfl (ev_mul rfl rfl rfl (nat_mul g1)) ?_
 obtain ⟨g2,h⟩:=ifp_s h
 refine zaa rfl (ev_add rfl rfl rfl (nat_add g2)) ?_
 obtain ⟨x3,hx3,h⟩:=bind_s h
 refine zaa rfl (st_call_r (r':=.one (.own 0)) 0 rfl (zez hx3) rfl [] ai rfl rfl rfl (.inl rfl) rfl rfl) (s_mv ?_)
 refine s_ln ?_
 refine zaa rfl (zco rfl rfl Tryz.underlying3 Tryz.underlying107 (ofNat_u64 a1.length)) ?_
 obtain ⟨x4,hx4,h⟩:=bind_s h
 refine zaa rfl (st_call_o (r':=.one (.own 0)) 0 rfl (zes hx4) rfl [] ai rfl rfl rfl (.inl rfl) rfl rfl) (s_sa ?_)
 refine aops_nil (aw_seq (aw_seq (aw_region (s_mv ?_))))
 refine s_ln ?_
 refine s_mv (aops_nil (aw_block ?_))
 obtain ⟨o5,ho5,h⟩:=bind_s h
 refine aw_loop_x (ι:={p:Nat×Nat×(List UInt8) // zcL k a1 p.1 p.2.1 p.2.2=some o5}) (fun p=>(⟨29,[],[(5,.one (.own 0)),(18,.one (CV.ls c_Str a1)),(19,vI ((a1.length:Nat):Int)),(20,vI ((p.1.2.1:Nat):Int))],[(0,some (.row 5 1 p.1.2.2.length (lsEl byC p.1.2.2)))]⟩:ASt)) (fun p=>p.1.1) ⟨(k,0,x4),ho5⟩ wk 0 (ε:=(List UInt8)) (fun x=>(⟨29,[],[(5,.one (.own 0))],[(0,some (.row 5 1 x.length (lsEl byC x)))]⟩:ASt)) (fun x=>x=o5) (fun _ _ w h=>aw_weak w h) ?_ ?_
 ·intro x5_0 hI5
  subst hI5
  refine aw_seq (aw_region (s_mv ?_))
  refine s_sa (aops_nil ?_)
  cases sj h
  refine aw_ret ⟨rfl,ret_r 0 r1 rfl rfl rfl ?_ ?_ ?_⟩
  ·first|exact TLe.refl _|(repeat' (first|exact .refl _|exact .nil|refine .tup ?_|refine .v ?_|refine .cons ?_ ?_|refine .agg ?_|refine .one ?_|exact .nil _|exact .emp _|refine .val ?_|refine .slc ?_ ?_|fail))
  ·rfl
  ·rfl
 intro p5
 obtain ⟨⟨n5,s5_0,s5_1⟩,l5⟩:=p5
 replace l5:zcL k a1 n5 s5_0 s5_1=some o5:=l5
 rcases n5 with _|n5
 ·exact absurd (show none=some o5 from l5) nofun
 rw [zcL] at l5
 refine aw_seq (aw_region (s_cm (aops_nil (aw_seq ?_))))
 refine aw_if l5 (fun c6 l5=>?_) (fun c6 l5=>?_)
 ·refine aw_skip (aw_seq (aw_block (aw_seq (aw_region ?_))))
  obtain ⟨g7,l5⟩:=ifp_s l5
  refine zaa rfl (zaf rfl rfl rfl g7 rfl rfl) (zaa rfl (zas rfl rfl rfl) (s_sa (aops_nil (aw_region ?_))))
  iterate 2 refine s_mv ?_
  obtain ⟨x8,hx8,l5⟩:=bind_s l5
  refine zaa rfl (st_call_o (r':=.one (.own 0)) 0 rfl (zfb hx8) rfl [] ai rfl rfl rfl (.inl rfl) rfl rfl) (s_sa (aops_nil (aw_region ?_)))
  obtain ⟨g9,l5⟩:=ifp_s l5
  refine zaa rfl (ev_add rfl rfl rfl (nat_add g9)) (s_mv (aops_nil ?_))
  exact ⟨⟨(n5,(s5_0+1),x8),l5⟩,Nat.lt_succ_self _,wk⟩
 refine aw_exit ?_
 show ∃_x:(List UInt8),_=_∧Weak _ _
 exact ⟨s5_1,sj l5,wk⟩
set_option maxHeartbeats 2000000 in
theorem zfs {k:Nat} {a0:List UInt8} {a1:Value} {r:(List UInt8)} (h:zeA k a0 a1=some r):FnC Tryz.prog 25 [.one (CV.ls byC a0),.agg (c_Value a1)] [] (Det (.one (.own 0)) [(0,some (.row 5 1 r.length (lsEl byC r)))]):=by
 unfold zeA at h
 refine fn_intro' 51 Tryz.func25 rfl rfl rfl (aw_seq (aw_region (zaa rfl (st_box 0 rfl rfl rfl rfl) (s_sa ?_))))
 refine aops_nil (aw_seq (aw_seq (aw_region (s_ls [_,_,_,_,_] ?_))))
 obtain ⟨x1,hx1,h⟩:=bind_s h
 refine zaa rfl (ev_call_v (zeQ hx1) rfl [] ai rfl rfl rfl (.inl rfl) rfl) (s_nt (aops_nil ?_))
 refine aw_if h (fun c2 h=>?_) (fun c2 h=>?_)
 ·refine aw_seq (aw_region (s_sa (aops_nil ?_)))
  cases sj h
  refine zfl 4 1 5 1 (lsEl byC []) rfl rfl ?_
  refine aw_ret ⟨rfl,ret_r 1 r1 rfl rfl rfl ?_ ?_ ?_⟩
  ·first|exact TLe.refl _|(repeat' (first|exact .refl _|exact .nil|refine .tup ?_|refine .v ?_|refine .cons ?_ ?_|refine .agg ?_|refine .one ?_|exact .nil _|exact .emp _|refine .val ?_|refine .slc ?_ ?_|fail))
  ·rfl
  ·rfl
 refine aw_skip ?_
 obtain ⟨x3,hx3,h⟩:=bind_s h
 obtain ⟨g4,h⟩:=ifp_s h
 refine aw_seq ?_
 apply aw_draw 6 ((⟨[],.one (CV.ls byC a0)⟩:Add)::⟨[(1,some (.row 5 1 x3.length (lsEl byC x3)))],.one (.own 1)⟩::⟨[],.one (.ptr 0 _)⟩::⟨[],vI a1.Kind⟩::⟨[],.one (.val (.int .u8 (((UInt8.ofInt a1.Kind)).toNat:Int)))⟩::⟨[],.one (CV.ls byC [(UInt8.ofInt a1.Kind)])⟩::[]) (by decide) rfl ?hk1x ?hf1x ?ho1x ?hr1x
 case ho1x =>
  refine o_mv 0 ?_
  refine obn 1 (fun S hle hfr=>.inl ⟨w0,st_call_r (r':=.one (.own 1)) 1 (hfr _ (List.mem_singleton.2 rfl)) (zez hx3) (map_ev (.cons (hle.e rfl) (.cons (hle.e rfl) (.nil)))) [] (by repeat' (first|exact .nil|refine .cons ?_ ?_|refine .one ?_|refine .agg ?_|exact .mk rfl|exact .lend (hle.heap _ _ rfl) (by simp)|exact .le (.nil _) rfl|exact .le (.emp _) rfl|exact .le (.any _) rfl|fail)) rfl rfl rfl (.inl rfl) (hle.d rfl) rfl⟩) ?_
  refine o_fd 0 ?_
  refine o_ld 4 ?_
  refine obn 12 (fun S hle hfr=>.inl ⟨w0,zco (hle.e rfl) (hle.d rfl) Tryz.underlying3 Tryz.underlying5 (ofInt_u8 a1.Kind)⟩) ?_
  refine obn 28 (fun S hle hfr=>.inl ⟨w0,zek (el:=lsEl byC [(UInt8.ofInt a1.Kind)]) (map_ev2 (.cons (hle.e rfl) (.nil))) rfl rfl rfl rfl rfl rfl (lit_el byC 1 [(UInt8.ofInt a1.Kind)] (fun _=>rfl)) (hle.d rfl)⟩) ?_
  exact trivial
 case hk1x=>rfl
 case hf1x=>rfl
 refine zaa rfl (st_app_ls (f:=byC) x3 [(UInt8.ofInt a1.Kind)] (fun _=>rfl) rfl rfl (.inl rfl) (by omega) (by omega) rfl) (s_sa ?_)
 refine aops_nil (aw_seq (aw_seq (aw_region (s_fd ?_))))
 refine s_ld ?_
 refine aops_nil (aw_block (aw_seq (aw_region (s_cm ?_))))
 refine s_sa (aops_nil ?_)
 refine aw_if h (fun c5 h=>?_) (fun c5 h=>?_)
 ·refine aw_seq (aw_region (s_mv ?_))
  refine s_fd ?_
  refine s_ld ?_
  obtain ⟨x6,hx6,h⟩:=bind_s h
  refine zaa rfl (st_call_o (r':=.one (.own 1)) 1 rfl (zgT hx6) rfl [] ai rfl rfl rfl (.inl rfl) rfl rfl) (s_sa (aops_nil ?_))
  cases sj h
  refine aw_ret ⟨rfl,ret_r 1 r1 rfl rfl rfl ?_ ?_ ?_⟩
  ·first|exact TLe.refl _|(repeat' (first|exact .refl _|exact .nil|refine .tup ?_|refine .v ?_|refine .cons ?_ ?_|refine .agg ?_|refine .one ?_|exact .nil _|exact .emp _|refine .val ?_|refine .slc ?_ ?_|fail))
  ·rfl
  ·rfl
 refine aw_seq (aw_region (s_cm ?_))
 refine s_sa (aops_nil ?_)
 refine aw_if h (fun c7 h=>?_) (fun c7 h=>?_)
 ·refine aw_seq (aw_region (s_mv ?_))
  refine s_fd ?_
  refine s_ld ?_
  refine zaa rfl (zco rfl rfl Tryz.underlying3 Tryz.underlying5 (ofInt_u8 a1.N)) ?_
  refine zaa rfl (zac (el:=lsEl byC [(UInt8.ofInt a1.N)]) 2 rfl rfl rfl rfl rfl rfl rfl rfl (lit_el byC 1 [(UInt8.ofInt a1.N)] (fun _=>rfl)) rfl) ?_
  obtain ⟨g8,h⟩:=ifp_s h
  refine zaa rfl (st_app_ls (f:=byC) (x3++[(UInt8.ofInt a1.Kind)]) [(UInt8.ofInt a1.N)] (fun _=>rfl) rfl rfl (.inr ⟨_,_,rfl,rfl⟩) (by omega) (by omega) rfl) (s_sa (aops_nil ?_))
  cases sj h
  refine aw_ret ⟨rfl,ret_r 1 r1 rfl rfl rfl ?_ ?_ ?_⟩
  ·first|exact TLe.refl _|(repeat' (first|exact .refl _|exact .nil|refine .tup ?_|refine .v ?_|refine .cons ?_ ?_|refine .agg ?_|refine .one ?_|exact .nil _|exact .emp _|refine .val ?_|refine .slc ?_ ?_|fail))
  ·rfl
  ·rfl
 refine aw_seq (aw_region (s_cm ?_))
 refine s_sa (aops_nil ?_)
 refine aw_if h (fun c9 h=>?_) (fun c9 h=>?_)
 ·refine aw_seq (aw_region (s_mv ?_))
  refine s_fd ?_
  refine s_ld ?_
  obtain ⟨x10,hx10,h⟩:=bind_s h
  refine zaa rfl (st_call_o (r':=.one (.own 1)) 1 rfl (zfb hx10) rfl [] ai rfl rfl rfl (.inl rfl) rfl rfl) (s_sa (aops_nil ?_))
  cases sj h
  refine aw_ret ⟨rfl,ret_r 1 r1 rfl rfl rfl ?_ ?_ ?_⟩
  ·first|exact TLe.refl _|(repeat' (first|exact .refl _|exact .nil|refine .tup ?_|refine .v ?_|refine .cons ?_ ?_|refine .agg ?_|refine .one ?_|exact .nil _|exact .emp _|refine .val ?_|refine .slc ?_ ?_|fail))
  ·rfl
  ·rfl
 refine aw_seq (aw_region (s_cm ?_))
 refine s_sa (aops_nil ?_)
 refine aw_if h (fun c11 h=>?_) (fun c11 h=>?_)
 ·refine aw_seq (aw_region (s_mv ?_))
  refine s_fd ?_
  refine s_ld ?_
  obtain ⟨x12,hx12,h⟩:=bind_s h
  refine zaa rfl (st_call_r (r':=.one (.own 2)) 2 rfl (zeP hx12) rfl [1] ai rfl rfl rfl (.inr ⟨rfl,fun _ _=>rfl⟩) rfl rfl) (s_sa (aops_nil ?_))
  cases sj h
  refine aw_ret ⟨rfl,ret_r 2 r1 rfl rfl rfl ?_ ?_ ?_⟩
  ·first|exact TLe.refl _|(repeat' (first|exact .refl _|exact .nil|refine .tup ?_|refine .v ?_|refine .cons ?_ ?_|refine .agg ?_|refine .one ?_|exact .nil _|exact .emp _|refine .val ?_|refine .slc ?_ ?_|fail))
  ·rfl
  ·rfl
 refine aw_seq (aw_region (s_cm ?_))
 refine s_sa (aops_nil ?_)
 refine aw_if h (fun c13 h=>?_) (fun c13 h=>?_)
 ·refine aw_seq (aw_region (s_mv ?_))
  refine s_fd ?_
  refine s_ld ?_
  obtain ⟨x14,hx14,h⟩:=bind_s h
  refine zaa rfl (st_call_r (r':=.one (.own 2)) 2 rfl (zgC hx14) rfl [1] ai rfl rfl rfl (.inr ⟨rfl,fun _ _=>rfl⟩) rfl rfl) (s_sa (aops_nil ?_))
  cases sj h
  refine aw_ret ⟨rfl,ret_r 2 r1 rfl rfl rfl ?_ ?_ ?_⟩
  ·first|exact TLe.refl _|(repeat' (first|exact .refl _|exact .nil|refine .tup ?_|refine .v ?_|refine .cons ?_ ?_|refine .agg ?_|refine .one ?_|exact .nil _|exact .emp _|refine .val ?_|refine .slc ?_ ?_|fail))
  ·rfl
  ·rfl
 refine aw_skip (aw_seq (aw_region (s_mv ?_)))
 refine s_sa (aops_nil ?_)
 cases sj h
 refine aw_ret ⟨rfl,ret_r 1 r1 rfl rfl rfl ?_ ?_ ?_⟩
 ·first|exact TLe.refl _|(repeat' (first|exact .refl _|exact .nil|refine .tup ?_|refine .v ?_|refine .cons ?_ ?_|refine .agg ?_|refine .one ?_|exact .nil _|exact .emp _|refine .val ?_|refine .slc ?_ ?_|fail))
 ·rfl
 ·rfl
set_option maxHeartbeats 2000000 in
theorem zfS {k:Nat} {a0:Bytecodewriter} {a1:CodeMethod} {r:Bytecodewriter} (h:zef k a0 a1=some r):FnC Tryz.prog 26 [.one (.ptr 0 0),.agg (zad a1)] (boxRow 5 1 a0.b.length (lsEl byC a0.b)) (Det (.tup []) (boxRow 5 1 r.b.length (lsEl byC r.b))):=by
 unfold zef at h
 refine fn_intro' 65 Tryz.func26 rfl rfl rfl (aw_seq (aw_region (zaa rfl (st_box 2 rfl rfl rfl rfl) (aops_nil (aw_seq (aw_region (s_mv ?_)))))))
 refine s_fd ?_
 refine s_ld ?_
 obtain ⟨x1,hx1,h⟩:=bind_s h
 refine zaa rfl (ev_call_w 0 1 (zea hx1) rfl [] ai rfl rfl rfl rfl rfl rfl (.inl rfl) rfl) (aops_nil ?_)
 obtain ⟨x2,hx2,h⟩:=bind_s h
 obtain ⟨x3,hx3,h⟩:=bind_s h
 refine aw_seq ?_
 apply aw_draw 11 ((⟨[],.one (.ptr 0 _)⟩:Add)::⟨[],.one (.ptr 0 _)⟩::⟨[],.one (.ptr 0 _)⟩::⟨[],.one (.ptr 0 _)⟩::⟨[],.one (.own 1)⟩::⟨[],.one (.ptr 2 _)⟩::⟨[],.one (CV.ls c_Int a1.Params)⟩::⟨[(3,some (.row 5 1 x2.length (lsEl byC x2)))],.one (.own 3)⟩::⟨[],.one (.ptr 2 _)⟩::⟨[],.one (CV.ls c_Int a1.Locals)⟩::⟨[(4,some (.row 5 1 x3.length (lsEl byC x3)))],.one (.own 4)⟩::[]) (by decide) rfl ?hk1x ?hf1x ?ho1x ?hr1x
 case ho1x =>
  refine o_mv 0 ?_
  refine o_mv 0 ?_
  refine obn 2 (fun S hle hfr=>.inl ⟨w0,ev_nilc (hle.e rfl) (hle.d rfl)⟩) ?_
  refine o_fd 6 ?_
  refine o_ld 14 ?_
  refine o_fd 0 ?_
  refine o_ld 32 ?_
  refine obn 126 (fun S hle hfr=>.inl ⟨w0,st_call_r (r':=.one (.own 3)) 3 (hfr _ (List.mem_singleton.2 rfl)) (zeP hx2) (map_ev (.cons (hle.e rfl) (.cons (hle.e rfl) (.nil)))) [1] (by repeat' (first|exact .nil|refine .cons ?_ ?_|refine .one ?_|refine .agg ?_|exact .mk rfl|exact .lend (hle.heap _ _ rfl) (by simp)|exact .le (.nil _) rfl|exact .le (.emp _) rfl|exact .le (.any _) rfl|fail)) rfl rfl rfl (.inr ⟨rfl,fun _ _=>rfl⟩) (hle.d rfl) rfl⟩) ?_
  refine o_fd 0 ?_
  refine o_ld 256 ?_
  refine obn 1022 (fun S hle hfr=>.inl ⟨w0,st_call_r (r':=.one (.own 4)) 4 (hfr _ (List.mem_singleton.2 rfl)) (zeP hx3) (map_ev (.cons (hle.e rfl) (.cons (hle.e rfl) (.nil)))) [3] (by repeat' (first|exact .nil|refine .cons ?_ ?_|refine .one ?_|refine .agg ?_|exact .mk rfl|exact .lend (hle.heap _ _ rfl) (by simp)|exact .le (.nil _) rfl|exact .le (.emp _) rfl|exact .le (.any _) rfl|fail)) rfl rfl rfl (.inr ⟨rfl,fun _ _=>rfl⟩) (hle.d rfl) rfl⟩) ?_
  exact trivial
 case hk1x=>rfl
 case hf1x=>rfl
 refine zaa rfl (ev_nilc rfl rfl) (s_fd ?_)
 refine s_st [_] ?_
 refine aops_swap 1 4 (aops_nil (aw_seq (aw_region (s_mv ?_))))
 refine s_fd ?_
 refine s_ld ?_
 obtain ⟨x4,hx4,h⟩:=bind_s h
 refine zaa rfl (ev_call_w 0 1 (zbx hx4) rfl [] ai rfl rfl rfl rfl rfl rfl (.inl rfl) rfl) (aops_nil (aw_seq (aw_region (s_mv ?_))))
 refine s_fd ?_
 refine s_ld ?_
 refine s_ln ?_
 obtain ⟨x5,hx5,h⟩:=bind_s h
 refine zaa rfl (ev_call_w 0 1 (zbx hx5) rfl [] ai rfl rfl rfl rfl rfl rfl (.inl rfl) rfl) (aops_nil (aw_seq (aw_region (s_fd ?_))))
 refine s_ld ?_
 refine s_ln ?_
 refine s_mv (aops_nil (aw_block ?_))
 obtain ⟨o6,ho6,h⟩:=bind_s h
 refine aw_loop (ι:={p:Nat×Nat×(List UInt8) // zcg k a1 p.1 p.2.1 p.2.2=some o6}) (fun p=>(⟨65,[0],[(0,.one (.ptr 0 0)),(33,.one (CV.ls c_Instr a1.Code)),(34,vI ((a1.Code.length:Nat):Int)),(35,vI ((p.1.2.1:Nat):Int))],[(0,some (.box [.own 1])),(1,some (.row 5 1 p.1.2.2.length (lsEl byC p.1.2.2)))]⟩:ASt)) (fun p=>p.1.1) ⟨(k,0,x5.b),ho6⟩ wk ?_
 intro p6
 obtain ⟨⟨n6,s6_0,s6_1⟩,l6⟩:=p6
 replace l6:zcg k a1 n6 s6_0 s6_1=some o6:=l6
 rcases n6 with _|n6
 ·exact absurd (show none=some o6 from l6) nofun
 rw [zcg] at l6
 refine aw_seq (aw_region (s_cm (aops_nil (aw_seq ?_))))
 refine aw_if l6 (fun c7 l6=>?_) (fun c7 l6=>?_)
 ·refine aw_skip ?_
  obtain ⟨o8,j8,l6⟩:=bind_s l6
  refine aw_cutE o8 (fun x=>(⟨65,[0],[(0,.one (.ptr 0 0)),(33,.one (CV.ls c_Instr a1.Code)),(34,vI ((a1.Code.length:Nat):Int)),(35,vI ((s6_0:Nat):Int))],[(0,some (.box [.own 1])),(1,some (.row 5 1 x.length (lsEl byC x)))]⟩:ASt)) ?_ ?_
  ·refine aw_region ?_
   obtain ⟨g9,l6⟩:=ifp_s l6
   refine zaa rfl (ev_add rfl rfl rfl (nat_add g9)) (s_mv (aops_nil ?_))
   exact ⟨⟨(n6,(s6_0+1),o8),l6⟩,Nat.lt_succ_self _,wk⟩
  refine aw_block (aw_seq (aw_region ?_))
  obtain ⟨g10,j8⟩:=ifp_s j8
  refine zaa rfl (zaf rfl rfl rfl g10 rfl rfl) (zaa rfl (zaI (ds:=[_,_,_,_,_,_,_,_]) rfl rfl rfl rfl) ?_)
  refine zaa rfl (st_alloc (cs:=[cI 0,cI 0,cI 0,cI 0,cI 0,.val (Sv []),.val (.slice none 0 0),.val (.slice none 0 0)]) 5 rfl rfl rfl rfl rfl) (s_st [_,_,_,_,_,_,_,_] ?_)
  refine aops_nil (aw_seq (aw_region (s_mv ?_)))
  refine s_fd ?_
  refine s_ld ?_
  obtain ⟨x11,hx11,j8⟩:=bind_s j8
  refine zaa rfl (ev_call_w 0 1 (zbx hx11) rfl [] ai rfl rfl rfl rfl rfl rfl (.inl rfl) rfl) (aops_nil (aw_seq (aw_region (s_mv ?_))))
  refine s_fd ?_
  refine s_ld ?_
  obtain ⟨x12,hx12,j8⟩:=bind_s j8
  refine zaa rfl (ev_call_w 0 1 (zbx hx12) rfl [] ai rfl rfl rfl rfl rfl rfl (.inl rfl) rfl) (aops_nil (aw_seq (aw_region (s_mv ?_))))
  refine s_fd ?_
  refine s_ld ?_
  obtain ⟨x13,hx13,j8⟩:=bind_s j8
  refine zaa rfl (ev_call_w 0 1 (zbx hx13) rfl [] ai rfl rfl rfl rfl rfl rfl (.inl rfl) rfl) (aops_nil (aw_seq (aw_region (s_fd ?_))))
  refine s_ld ?_
  refine s_cm (aops_nil ?_)
  refine aw_if j8 (fun c14 j8=>?_) (fun c14 j8=>?_)
  ·obtain ⟨x15,hx15,j8⟩:=bind_s j8
   apply aw_draw 8 ((⟨[],.one (.ptr 0 _)⟩:Add)::⟨[],.one (.ptr 0 _)⟩::⟨[],.one (.ptr 0 _)⟩::⟨[],.one (.ptr 0 _)⟩::⟨[],.one (.own 1)⟩::⟨[],.one (.ptr 5 _)⟩::⟨[],.agg (c_Value ((a1.Code.getD s6_0 default).Value))⟩::⟨[(6,some (.row 5 1 x15.length (lsEl byC x15)))],.one (.own 6)⟩::[]) (by decide) rfl ?hk7x ?hf7x ?ho7x ?hr7x
   case ho7x =>
    refine o_mv 0 ?_
    refine o_mv 0 ?_
    refine obn 2 (fun S hle hfr=>.inl ⟨w0,ev_nilc (hle.e rfl) (hle.d rfl)⟩) ?_
    refine o_fd 6 ?_
    refine o_ld 14 ?_
    refine o_fd 0 ?_
    refine obn 32 (fun S hle hfr=>.inl ⟨w0,ev_loads (ds:=[_,_,_,_,_]) (hle.e rfl) (hle.heap _ _ rfl) rfl rfl (hle.d rfl)⟩) ?_
    refine obn 126 (fun S hle hfr=>.inl ⟨w0,st_call_r (r':=.one (.own 6)) 6 (hfr _ (List.mem_singleton.2 rfl)) (zfs hx15) (map_ev (.cons (hle.e rfl) (.cons (hle.e rfl) (.nil)))) [1] (by repeat' (first|exact .nil|refine .cons ?_ ?_|refine .one ?_|refine .agg ?_|exact .mk rfl|exact .lend (hle.heap _ _ rfl) (by simp)|exact .le (.nil _) rfl|exact .le (.emp _) rfl|exact .le (.any _) rfl|fail)) rfl rfl rfl (.inr ⟨rfl,fun _ _=>rfl⟩) (hle.d rfl) rfl⟩) ?_
    exact trivial
   case hk7x=>rfl
   case hf7x=>rfl
   refine zaa rfl (ev_nilc rfl rfl) (s_fd ?_)
   refine s_st [_] ?_
   refine aops_swap 1 6 (aops_nil ?_)
   exact jx j8 wk
  refine aw_skip ?_
  exact jx j8 wk
 refine aw_exit ?_
 have e6:=sj l6
 subst e6
 cases sj h
 refine ⟨rfl,ret_w 1 (rn (.nil)) rfl rfl (fun _=>rfl) rfl rfl rfl rfl ?_⟩
 (repeat' (first|exact .refl _|exact .nil|refine .tup ?_|refine .v ?_|refine .cons ?_ ?_|refine .agg ?_|refine .one ?_|exact .nil _|exact .emp _|refine .val ?_|refine .slc ?_ ?_|fail))
end Md
end Go.Proofs.YtclffekkjfhpdaaGreat

