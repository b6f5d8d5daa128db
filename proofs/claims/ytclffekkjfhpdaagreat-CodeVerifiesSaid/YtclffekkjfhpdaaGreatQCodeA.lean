import Derived.Test.YtclffekkjfhpdaaGreatQAbsSw
import Derived.Test.YtclffekkjfhpdaaGreatQMo
import Derived.Test.YtclffekkjfhpdaaGreatQTy
import Derived.Test.YtclffekkjfhpdaaGreatQAbsS
import Derived.Test.YtclffekkjfhpdaaGreatQAbsF
namespace Go.Proofs.YtclffekkjfhpdaaGreat
open Go.ChangeShapes Go.WideShapes Go.RowKit
open Abs
set_option linter.unusedVariables false
set_option linter.unusedSimpArgs false
set_option maxRecDepth 10000
namespace Md
def c_Int (x:Int):List CV:=[cI x]
def c_Str (x:List UInt8):List CV:=[.val (Sv x)]
def c_Field (x:Field):List CV:=[.val (Sv x.Name),cI x.Kind,cI x.Init.Kind,cI x.Init.N,.val (Sv x.Init.S),CV.ls c_Int x.Init.I,CV.ls c_Str x.Init.L]
def c_Instr (x:Instr):List CV:=[cI x.Op,cI x.A,cI x.B,cI x.Value.Kind,cI x.Value.N,.val (Sv x.Value.S),CV.ls c_Int x.Value.I,CV.ls c_Str x.Value.L]
def zad (x:CodeMethod):List CV:=[.val (Sv x.Name),CV.ls c_Int x.Params,cI x.Result,CV.ls c_Int x.Locals,CV.ls c_Instr x.Code]
def zab (x:CodeType):List CV:=[.val (Sv x.Name),CV.ls c_Field x.Fields,CV.ls zad x.Methods]
set_option maxHeartbeats 2000000 in
theorem zgD {k:Nat} {a0:UInt8} {r:Bool} (h:zeT k a0=some r):FnC Tryz.prog 113 [.one (.val (.int .u8 (a0.toNat:Int)))] [] (Det (vB r) []):=by
 unfold zeT at h
 refine fn_intro' 21 Tryz.func113 rfl rfl rfl (aw_seq (aw_region (s_sa ?_)))
 refine aops_nil (aw_seq (aw_region (s_mv ?_)))
 refine s_cm ?_
 refine s_mv ?_
 refine bo 3 ((decide ((a0.toNat:Int)≥97))&&(decide ((a0.toNat:Int)≤122))) ?_
 refine s_mv ?_
 refine aops_mid 7 (⟨21,[],[(0,.one (.val (.int .u8 (a0.toNat:Int)))),(2,vB false),(16,vB (((decide ((a0.toNat:Int)≥97))&&(decide ((a0.toNat:Int)≤122)))||((decide ((a0.toNat:Int)≥65))&&(decide ((a0.toNat:Int)≤90)))))],[]⟩:ASt) ?_ ?_
 ·rcases bool_or (((decide ((a0.toNat:Int)≥97))&&(decide ((a0.toNat:Int)≤122)))) with q2|q2
  ·skip
   iterate 3 refine np q2 ?_
   refine aops_und rfl rfl rfl rfl rfl (aops_und rfl rfl rfl rfl rfl (np q2 ?_))
   refine s_py q2 (aops_nil ?_)
   exact wq q2
  refine y_mv q2 ?_
  refine y_cm q2 ?_
  refine y_mv q2 ?_
  refine aops_mid 3 (⟨21,[],[(0,.one (.val (.int .u8 (a0.toNat:Int)))),(2,vB false),(9,vB ((decide ((a0.toNat:Int)≥97))&&(decide ((a0.toNat:Int)≤122)))),(15,vB ((decide ((a0.toNat:Int)≥65))&&(decide ((a0.toNat:Int)≤90))))],[]⟩:ASt) ?_ ?_
  ·rcases bool_or ((decide ((a0.toNat:Int)≥65))) with q3|q3
   ·skip
    refine y_mv q3 ?_
    refine y_cm q3 ?_
    refine aops_yes rfl rfl rfl rfl q2 (zau rfl (by first|rfl|exact q3) rfl rfl) (aops_nil ?_)
    exact wq q3
   iterate 2 refine np q3 ?_
   refine aops_yes rfl rfl rfl rfl q2 (zaz rfl (by first|rfl|exact q3) rfl rfl) (aops_nil ?_)
   exact wq q3
  refine s_pn q2 (aops_nil ?_)
  exact wq q2
 refine s_mv ?_
 refine bo 3 ((((decide ((a0.toNat:Int)≥97))&&(decide ((a0.toNat:Int)≤122)))||((decide ((a0.toNat:Int)≥65))&&(decide ((a0.toNat:Int)≤90))))||((a0.toNat:Int)==95)) ?_
 refine s_sa (aops_nil ?_)
 cases sj h
 exact aw_ret ⟨rfl,rv r1⟩
set_option maxHeartbeats 2000000 in
theorem zhT {k:Nat} {a0:UInt8} {r:Bool} (h:zgx k a0=some r):FnC Tryz.prog 116 [.one (.val (.int .u8 (a0.toNat:Int)))] [] (Det (vB r) []):=by
 unfold zgx at h
 refine fn_intro' 9 Tryz.func116 rfl rfl rfl (aw_seq (aw_region (s_sa ?_)))
 refine aops_nil (aw_seq (aw_region (s_mv ?_)))
 refine s_cm ?_
 refine s_mv ?_
 refine bo 3 ((decide ((a0.toNat:Int)≥48))&&(decide ((a0.toNat:Int)≤57))) ?_
 refine s_sa (aops_nil ?_)
 cases sj h
 exact aw_ret ⟨rfl,rv r1⟩
set_option maxHeartbeats 2000000 in
theorem zhH {k:Nat} {a0:UInt8} {r:Bool} (h:zfj k a0=some r):FnC Tryz.prog 115 [.one (.val (.int .u8 (a0.toNat:Int)))] [] (Det (vB r) []):=by
 unfold zfj at h
 refine fn_intro' 9 Tryz.func115 rfl rfl rfl (aw_seq (aw_region (s_sa ?_)))
 refine aops_nil (aw_seq (aw_region (s_mv ?_)))
 obtain ⟨x1,hx1,h⟩:=bind_s h
 refine zaa rfl (ev_call_v (zgD hx1) rfl [] ai rfl rfl rfl (.inl rfl) rfl) (s_mv ?_)
 obtain ⟨o2,j2,h⟩:=bind_s h
 refine aops_cutE 3 o2 (fun x2=>(⟨9,[],[(2,vB false),(8,vB x2)],[]⟩:ASt)) ?_ ?_
 ·refine s_sa (aops_nil ?_)
  cases sj h
  exact aw_ret ⟨rfl,rv r1⟩
 rcases co j2 with ⟨q2,j2⟩|⟨q2,j2⟩
 ·iterate 2 refine np q2 ?_
  refine s_py q2 (aops_nil ?_)
  exact jx j2 wk
 refine y_mv q2 ?_
 obtain ⟨x3,hx3,j2⟩:=bind_s j2
 refine aops_yes rfl rfl rfl rfl q2 (ev_call_v (zhT hx3) rfl [] ai rfl rfl rfl (.inl rfl) rfl) (s_pn q2 (aops_nil ?_))
 exact jx j2 wk
set_option maxHeartbeats 2000000 in
theorem zfx {k:Nat} {a0:List UInt8} {r:Int} (h:zdw k a0=some r):FnC Tryz.prog 114 [.one (.val (Sv a0)),.one (.fn 115 [])] [] (Det (vI r) []):=by
 unfold zdw at h
 refine fn_intro' 20 Tryz.func114 rfl rfl rfl (aw_seq (aw_region (s_sa ?_)))
 refine aops_nil (aw_seq (aw_region (s_sa (aops_nil ?_))))
 obtain ⟨o1,j1,h⟩:=bind_s h
 refine aw_cutE o1 (fun x=>(⟨20,[],[(5,vI ((x:Nat):Int))],[]⟩:ASt)) ?_ ?_
 ·refine aw_seq (aw_region (s_mv ?_))
  refine s_sa (aops_nil ?_)
  cases sj h
  exact aw_ret ⟨rfl,rv r1⟩
 refine aw_block ?_
 obtain ⟨o2,ho2,j1⟩:=bind_s j1
 refine aw_loop (ι:={p:Nat×Nat // zbH k a0 p.1 p.2=some o2}) (fun p=>(⟨20,[],[(0,.one (.val (Sv a0))),(1,.one (.fn 115 [])),(5,vI ((p.1.2:Nat):Int))],[]⟩:ASt)) (fun p=>p.1.1) ⟨(k,0),ho2⟩ wk ?_
 intro p2
 obtain ⟨⟨n2,s2_0⟩,l2⟩:=p2
 replace l2:zbH k a0 n2 s2_0=some o2:=l2
 rcases n2 with _|n2
 ·exact absurd (show none=some o2 from l2) nofun
 rw [zbH] at l2
 refine aw_seq (aw_seq (aw_region ?_))
 iterate 2 refine s_mv ?_
 refine zaa rfl (zdg rfl rfl) (s_cm ?_)
 refine s_mv ?_
 obtain ⟨o3,j3,l2⟩:=bind_s l2
 refine aops_cutE 6 o3 (fun x3=>(⟨20,[],[(0,.one (.val (Sv a0))),(1,.one (.fn 115 [])),(5,vI ((s2_0:Nat):Int)),(16,vB x3)],[]⟩:ASt)) ?_ ?_
 ·refine aops_nil ?_
  refine aw_if l2 (fun c4 l2=>?_) (fun c4 l2=>?_)
  ·refine aw_skip (aw_block (aw_region (s_mv ?_)))
   obtain ⟨g5,l2⟩:=ifp_s l2
   refine zaa rfl (ev_add rfl rfl rfl (nat_add g5)) (s_sa (aops_nil ?_))
   exact ⟨⟨(n2,(s2_0+1)),l2⟩,Nat.lt_succ_self _,wk⟩
  refine aw_exit ?_
  have e2:=sj l2
  subst e2
  exact jx j1 wk
 rcases co j3 with ⟨q3,j3⟩|⟨q3,j3⟩
 ·iterate 3 refine y_mv q3 ?_
  obtain ⟨g6,j3⟩:=ifp_s j3
  refine aops_yes rfl rfl rfl rfl q3 (zfX rfl rfl rfl g6 rfl) ?_
  obtain ⟨x7,hx7,j3⟩:=bind_s j3
  refine aops_yes rfl rfl rfl rfl q3 (ev_callee rfl (ev_call_v (zhH hx7) rfl [] ai rfl rfl rfl (.inl rfl) rfl)) (s_py q3 (aops_nil ?_))
  exact jx j3 wk
 iterate 5 refine np q3 ?_
 refine s_pn q3 (aops_nil ?_)
 exact jx j3 wk
set_option maxHeartbeats 2000000 in
theorem zid {k:Nat} {a0:List UInt8} {r:Int} (h:zgO k a0=some r):FnC Tryz.prog 95 [.one (.val (Sv a0))] [] (Det (vI r) []):=by
 unfold zgO at h
 refine fn_intro' 13 Tryz.func95 rfl rfl rfl (aw_seq (aw_region (s_sa ?_)))
 refine aops_nil (aw_seq (aw_seq (aw_region (s_mv ?_))))
 refine zaa rfl (st_str_eq rfl rfl rfl) (s_mv ?_)
 obtain ⟨o1,j1,h⟩:=bind_s h
 refine aops_cutE 5 o1 (fun x1=>(⟨13,[],[(0,.one (.val (Sv a0))),(10,vB x1)],[]⟩:ASt)) ?_ ?_
 ·refine aops_nil ?_
  refine aw_if h (fun c2 h=>?_) (fun c2 h=>?_)
  ·refine aw_seq (aw_region (s_sa (aops_nil ?_)))
   cases sj h
   exact aw_ret ⟨rfl,rv r1⟩
  refine aw_skip (aw_seq (aw_region (s_mv ?_)))
  obtain ⟨x3,hx3,h⟩:=bind_s h
  refine zaa rfl (ev_call_v (zfx hx3) rfl [] ai rfl rfl rfl (.inl rfl) rfl) (s_sa (aops_nil ?_))
  cases sj h
  exact aw_ret ⟨rfl,rv r1⟩
 rcases co j1 with ⟨q1,j1⟩|⟨q1,j1⟩
 ·iterate 4 refine np q1 ?_
  refine s_py q1 (aops_nil ?_)
  exact jx j1 wk
 refine y_mv q1 ?_
 obtain ⟨g4,j1⟩:=ifp_s j1
 refine aops_yes rfl rfl rfl rfl q1 (zfX rfl rfl rfl g4 rfl) ?_
 obtain ⟨x5,hx5,j1⟩:=bind_s j1
 refine aops_yes rfl rfl rfl rfl q1 (ev_call_v (zgD hx5) rfl [] ai rfl rfl rfl (.inl rfl) rfl) (y_nt q1 ?_)
 refine s_pn q1 (aops_nil ?_)
 exact jx j1 wk
set_option maxHeartbeats 2000000 in
theorem zhg {k:Nat} {a0:List UInt8} {r:Bool} (h:zcH k a0=some r):FnC Tryz.prog 96 [.one (.val (Sv a0))] [] (Det (vB r) []):=by
 unfold zcH at h
 refine fn_intro' 26 Tryz.func96 rfl rfl rfl (aw_seq (aw_region (s_sa ?_)))
 refine aops_nil (aw_seq (aw_seq (aw_region (s_mv ?_))))
 refine aops_nil (aw_block (aw_seq (aw_seq (aw_region (zaa rfl (st_str_eq rfl rfl rfl) (s_sa (aops_nil ?_)))))))
 refine aw_if h (fun c1 h=>?_) (fun c1 h=>?_)
 ·refine aw_skip (aw_yes rfl (c1) (aw_seq (aw_region (s_sa (aops_nil ?_)))))
  cases sj h
  exact aw_ret ⟨rfl,rv r1⟩
 refine aw_seq (aw_region (zaa rfl (st_str_eq rfl rfl rfl) (s_sa (aops_nil ?_))))
 refine aw_if h (fun c2 h=>?_) (fun c2 h=>?_)
 ·refine aw_skip (aw_yes rfl (c2) (aw_seq (aw_region (s_sa (aops_nil ?_)))))
  cases sj h
  exact aw_ret ⟨rfl,rv r1⟩
 refine aw_seq (aw_region (zaa rfl (st_str_eq rfl rfl rfl) (s_sa (aops_nil ?_))))
 refine aw_if h (fun c3 h=>?_) (fun c3 h=>?_)
 ·refine aw_skip (aw_yes rfl (c3) (aw_seq (aw_region (s_sa (aops_nil ?_)))))
  cases sj h
  exact aw_ret ⟨rfl,rv r1⟩
 refine aw_seq (aw_region (zaa rfl (st_str_eq rfl rfl rfl) (s_sa (aops_nil ?_))))
 refine aw_if h (fun c4 h=>?_) (fun c4 h=>?_)
 ·refine aw_skip (aw_yes rfl (c4) (aw_seq (aw_region (s_sa (aops_nil ?_)))))
  cases sj h
  exact aw_ret ⟨rfl,rv r1⟩
 refine aw_seq (aw_region (zaa rfl (st_str_eq rfl rfl rfl) (s_sa (aops_nil ?_))))
 refine aw_if h (fun c5 h=>?_) (fun c5 h=>?_)
 ·refine aw_skip (aw_yes rfl (c5) (aw_seq (aw_region (s_sa (aops_nil ?_)))))
  cases sj h
  exact aw_ret ⟨rfl,rv r1⟩
 refine aw_seq (aw_region (zaa rfl (st_str_eq rfl rfl rfl) (s_sa (aops_nil ?_))))
 refine aw_if h (fun c6 h=>?_) (fun c6 h=>?_)
 ·refine aw_skip (aw_yes rfl (c6) (aw_seq (aw_region (s_sa (aops_nil ?_)))))
  cases sj h
  exact aw_ret ⟨rfl,rv r1⟩
 refine aw_seq (aw_region (zaa rfl (st_str_eq rfl rfl rfl) (s_sa (aops_nil ?_))))
 refine aw_if h (fun c7 h=>?_) (fun c7 h=>?_)
 ·refine aw_skip (aw_yes rfl (c7) (aw_seq (aw_region (s_sa (aops_nil ?_)))))
  cases sj h
  exact aw_ret ⟨rfl,rv r1⟩
 refine aw_seq (aw_region (zaa rfl (st_str_eq rfl rfl rfl) (s_sa (aops_nil ?_))))
 refine aw_if h (fun c8 h=>?_) (fun c8 h=>?_)
 ·refine aw_skip (aw_yes rfl (c8) (aw_seq (aw_region (s_sa (aops_nil ?_)))))
  cases sj h
  exact aw_ret ⟨rfl,rv r1⟩
 refine aw_seq (aw_region (zaa rfl (st_str_eq rfl rfl rfl) (s_sa (aops_nil ?_))))
 refine aw_if h (fun c9 h=>?_) (fun c9 h=>?_)
 ·refine aw_skip (aw_yes rfl (c9) (aw_seq (aw_region (s_sa (aops_nil ?_)))))
  cases sj h
  exact aw_ret ⟨rfl,rv r1⟩
 refine aw_seq (aw_region (zaa rfl (st_str_eq rfl rfl rfl) (s_sa (aops_nil ?_))))
 refine aw_if h (fun c10 h=>?_) (fun c10 h=>?_)
 ·refine aw_skip (aw_yes rfl (c10) (aw_seq (aw_region (s_sa (aops_nil ?_)))))
  cases sj h
  exact aw_ret ⟨rfl,rv r1⟩
 refine aw_seq (aw_region (zaa rfl (st_str_eq rfl rfl rfl) (s_sa (aops_nil ?_))))
 refine aw_if h (fun c11 h=>?_) (fun c11 h=>?_)
 ·refine aw_skip (aw_yes rfl (c11) (aw_seq (aw_region (s_sa (aops_nil ?_)))))
  cases sj h
  exact aw_ret ⟨rfl,rv r1⟩
 refine aw_seq (aw_region (zaa rfl (st_str_eq rfl rfl rfl) (s_sa (aops_nil ?_))))
 refine aw_if h (fun c12 h=>?_) (fun c12 h=>?_)
 ·refine aw_skip (aw_yes rfl (c12) (aw_seq (aw_region (s_sa (aops_nil ?_)))))
  cases sj h
  exact aw_ret ⟨rfl,rv r1⟩
 refine aw_seq (aw_region (zaa rfl (st_str_eq rfl rfl rfl) (s_sa (aops_nil ?_))))
 refine aw_if h (fun c13 h=>?_) (fun c13 h=>?_)
 ·refine aw_skip (aw_yes rfl (c13) (aw_seq (aw_region (s_sa (aops_nil ?_)))))
  cases sj h
  exact aw_ret ⟨rfl,rv r1⟩
 refine aw_seq (aw_region (zaa rfl (st_str_eq rfl rfl rfl) (s_sa (aops_nil ?_))))
 refine aw_if h (fun c14 h=>?_) (fun c14 h=>?_)
 ·refine aw_skip (aw_yes rfl (c14) (aw_seq (aw_region (s_sa (aops_nil ?_)))))
  cases sj h
  exact aw_ret ⟨rfl,rv r1⟩
 refine aw_seq (aw_region (zaa rfl (st_str_eq rfl rfl rfl) (s_sa (aops_nil ?_))))
 refine aw_if h (fun c15 h=>?_) (fun c15 h=>?_)
 ·refine aw_skip (aw_yes rfl (c15) (aw_seq (aw_region (s_sa (aops_nil ?_)))))
  cases sj h
  exact aw_ret ⟨rfl,rv r1⟩
 refine aw_seq (aw_region (zaa rfl (st_str_eq rfl rfl rfl) (s_sa (aops_nil ?_))))
 refine aw_if h (fun c16 h=>?_) (fun c16 h=>?_)
 ·refine aw_skip (aw_yes rfl (c16) (aw_seq (aw_region (s_sa (aops_nil ?_)))))
  cases sj h
  exact aw_ret ⟨rfl,rv r1⟩
 refine aw_seq (aw_region (zaa rfl (st_str_eq rfl rfl rfl) (s_sa (aops_nil ?_))))
 refine aw_if h (fun c17 h=>?_) (fun c17 h=>?_)
 ·refine aw_skip (aw_yes rfl (c17) (aw_seq (aw_region (s_sa (aops_nil ?_)))))
  cases sj h
  exact aw_ret ⟨rfl,rv r1⟩
 refine aw_seq (aw_region (zaa rfl (st_str_eq rfl rfl rfl) (s_sa (aops_nil ?_))))
 refine aw_if h (fun c18 h=>?_) (fun c18 h=>?_)
 ·refine aw_skip (aw_yes rfl (c18) (aw_seq (aw_region (s_sa (aops_nil ?_)))))
  cases sj h
  exact aw_ret ⟨rfl,rv r1⟩
 refine aw_seq (aw_region (zaa rfl (st_str_eq rfl rfl rfl) (s_sa (aops_nil ?_))))
 refine aw_if h (fun c19 h=>?_) (fun c19 h=>?_)
 ·refine aw_skip (aw_yes rfl (c19) (aw_seq (aw_region (s_sa (aops_nil ?_)))))
  cases sj h
  exact aw_ret ⟨rfl,rv r1⟩
 refine aw_seq (aw_region (zaa rfl (st_str_eq rfl rfl rfl) (s_sa (aops_nil ?_))))
 refine aw_if h (fun c20 h=>?_) (fun c20 h=>?_)
 ·refine aw_skip (aw_yes rfl (c20) (aw_seq (aw_region (s_sa (aops_nil ?_)))))
  cases sj h
  exact aw_ret ⟨rfl,rv r1⟩
 refine aw_region (zaa rfl (st_str_eq rfl rfl rfl) (s_sa (aops_nil ?_)))
 refine aw_if h (fun c21 h=>?_) (fun c21 h=>?_)
 ·refine aw_seq (aw_region (s_sa (aops_nil ?_)))
  cases sj h
  exact aw_ret ⟨rfl,rv r1⟩
 refine aw_skip (aw_seq (aw_region (s_sa (aops_nil ?_))))
 cases sj h
 exact aw_ret ⟨rfl,rv r1⟩
set_option maxHeartbeats 2000000 in
theorem zfz {k:Nat} {a0:List UInt8} {r:Bool} (h:zei k a0=some r):FnC Tryz.prog 71 [.one (.val (Sv a0))] [] (Det (vB r) []):=by
 unfold zei at h
 refine fn_intro' 22 Tryz.func71 rfl rfl rfl (aw_seq (aw_region (s_sa ?_)))
 refine aops_nil (aw_seq (aw_region (s_mv ?_)))
 refine zaa rfl (st_str_ne rfl rfl rfl) (s_mv ?_)
 refine aops_mid 4 (⟨22,[],[(0,.one (.val (Sv a0))),(2,vB false),(9,vB ((!(decide (a0=([]:List UInt8))))&&(decide (((a0.length:Nat):Int)≤32))))],[]⟩:ASt) ?_ ?_
 ·rcases bool_or ((!(decide (a0=([]:List UInt8))))) with q1|q1
  ·skip
   refine y_mv q1 ?_
   refine aops_yes rfl rfl rfl rfl q1 (zdg rfl rfl) (y_cm q1 ?_)
   refine s_py q1 (aops_nil ?_)
   exact wq q1
  iterate 3 refine np q1 ?_
  refine s_pn q1 (aops_nil ?_)
  exact wq q1
 refine s_mv ?_
 obtain ⟨o2,j2,h⟩:=bind_s h
 refine aops_cutE 6 o2 (fun x2=>(⟨22,[],[(0,.one (.val (Sv a0))),(2,vB false),(16,vB x2)],[]⟩:ASt)) ?_ ?_
 ·refine s_mv ?_
  obtain ⟨o3,j3,h⟩:=bind_s h
  refine aops_cutE 4 o3 (fun x3=>(⟨22,[],[(2,vB false),(21,vB x3)],[]⟩:ASt)) ?_ ?_
  ·refine s_sa (aops_nil ?_)
   cases sj h
   exact aw_ret ⟨rfl,rv r1⟩
  rcases co j3 with ⟨q3,j3⟩|⟨q3,j3⟩
  ·refine y_mv q3 ?_
   obtain ⟨x4,hx4,j3⟩:=bind_s j3
   refine aops_yes rfl rfl rfl rfl q3 (ev_call_v (zhg hx4) rfl [] ai rfl rfl rfl (.inl rfl) rfl) (y_nt q3 ?_)
   refine s_py q3 (aops_nil ?_)
   exact jx j3 wk
  iterate 3 refine np q3 ?_
  refine s_pn q3 (aops_nil ?_)
  exact jx j3 wk
 rcases co j2 with ⟨q2,j2⟩|⟨q2,j2⟩
 ·refine y_mv q2 ?_
  obtain ⟨x5,hx5,j2⟩:=bind_s j2
  refine aops_yes rfl rfl rfl rfl q2 (ev_call_v (zid hx5) rfl [] ai rfl rfl rfl (.inl rfl) rfl) (y_mv q2 ?_)
  refine aops_yes rfl rfl rfl rfl q2 (zdg rfl rfl) (y_cm q2 ?_)
  refine s_py q2 (aops_nil ?_)
  exact jx j2 wk
 iterate 5 refine np q2 ?_
 refine s_pn q2 (aops_nil ?_)
 exact jx j2 wk
set_option maxHeartbeats 2000000 in
theorem zeS {k:Nat} {a0:Int} {r:Bool} (h:zdH k a0=some r):FnC Tryz.prog 76 [vI a0] [] (Det (vB r) []):=by
 unfold zdH at h
 refine fn_intro' 9 Tryz.func76 rfl rfl rfl (aw_seq (aw_region (s_sa ?_)))
 refine aops_nil (aw_seq (aw_region (s_mv ?_)))
 refine s_cm ?_
 refine s_mv ?_
 refine bo 3 ((decide (a0≥1))&&(decide (a0≤5))) ?_
 refine s_sa (aops_nil ?_)
 cases sj h
 exact aw_ret ⟨rfl,rv r1⟩
set_option maxHeartbeats 2000000 in
theorem zgf {k:Nat} {a0:Int} {c0:CodeType} {r:(List UInt8)} (h:zcW k a0 c0=some r):FnC Tryz.prog 72 [vI a0,.one (.cptr [.val (Sv c0.Name),CV.ls c_Field c0.Fields,CV.ls zad c0.Methods])] [] (Det (.one (.val (Sv r))) []):=by
 unfold zcW at h
 refine fn_intro' 10 Tryz.func72 rfl rfl rfl (aw_seq (aw_region (s_sa ?_)))
 refine aops_nil (aw_seq (aw_region (zaa rfl (zaM rfl rfl rfl) (zaa rfl (zas rfl rfl rfl) (s_mv ?_)))))
 obtain ⟨g1,h⟩:=ifp_s h
 refine zaa rfl (zaf rfl rfl (idx_eq g1) (idx_lt g1) rfl rfl) (zaa rfl (zaM rfl rfl rfl) ?_)
 refine zaa rfl (zas rfl rfl rfl) (s_sa (aops_nil ?_))
 cases sj h
 exact aw_ret ⟨rfl,rv r1⟩
set_option maxHeartbeats 2000000 in
theorem zgl {k:Nat} {a0:Int} {c0:CodeType} {r:(List UInt8)} (h:zcY k a0 c0=some r):FnC Tryz.prog 73 [vI a0,.one (.cptr [.val (Sv c0.Name),CV.ls c_Field c0.Fields,CV.ls zad c0.Methods])] [] (Det (.one (.val (Sv r))) []):=by
 unfold zcY at h
 refine fn_intro' 10 Tryz.func73 rfl rfl rfl (aw_seq (aw_region (s_sa ?_)))
 refine aops_nil (aw_seq (aw_region (zaa rfl (zaM rfl rfl rfl) (zaa rfl (zas rfl rfl rfl) (s_mv ?_)))))
 obtain ⟨g1,h⟩:=ifp_s h
 refine zaa rfl (zaf rfl rfl (idx_eq g1) (idx_lt g1) rfl rfl) (zaa rfl (zaM rfl rfl rfl) ?_)
 refine zaa rfl (zas rfl rfl rfl) (s_sa (aops_nil ?_))
 cases sj h
 exact aw_ret ⟨rfl,rv r1⟩
set_option maxHeartbeats 2000000 in
theorem zgg {k:Nat} {a0:Int} {c0:Code} {r:(List UInt8)} (h:zcT k a0 c0=some r):FnC Tryz.prog 40 [vI a0,.one (.cptr [CV.ls zab c0.Types])] [] (Det (.one (.val (Sv r))) []):=by
 unfold zcT at h
 refine fn_intro' 10 Tryz.func40 rfl rfl rfl (aw_seq (aw_region (s_sa ?_)))
 refine aops_nil (aw_seq (aw_region (zaa rfl (zaM rfl rfl rfl) (zaa rfl (zas rfl rfl rfl) (s_mv ?_)))))
 obtain ⟨g1,h⟩:=ifp_s h
 refine zaa rfl (zaf rfl rfl (idx_eq g1) (idx_lt g1) rfl rfl) (zaa rfl (zaM rfl rfl rfl) ?_)
 refine zaa rfl (zas rfl rfl rfl) (s_sa (aops_nil ?_))
 cases sj h
 exact aw_ret ⟨rfl,rv r1⟩
set_option maxHeartbeats 2000000 in
theorem zgA {k:Nat} {a0:Int} {r:Bool} (h:zej k a0=some r):FnC Tryz.prog 99 [vI a0] [] (Det (vB r) []):=by
 unfold zej at h
 refine fn_intro' 6 Tryz.func99 rfl rfl rfl (aw_seq (aw_region (s_sa ?_)))
 refine aops_nil (aw_seq (aw_region (s_mv ?_)))
 obtain ⟨x1,hx1,h⟩:=bind_s h
 refine zaa rfl (ev_call_v (zeS hx1) rfl [] ai rfl rfl rfl (.inl rfl) rfl) (s_nt ?_)
 refine s_sa (aops_nil ?_)
 cases sj h
 exact aw_ret ⟨rfl,rv r1⟩
set_option maxHeartbeats 2000000 in
theorem zdI {k:Nat} {a0:List Int} {r:Int} (h:zbE k a0=some r):FnC Tryz.prog 117 [.one (CV.ls c_Int a0),.one (.fn 99 [])] [] (Det (vI r) []):=by
 unfold zbE at h
 refine fn_intro' 19 Tryz.func117 rfl rfl rfl (aw_seq (aw_region (s_sa ?_)))
 refine aops_nil (aw_seq (aw_seq (aw_region (s_mv ?_))))
 refine s_ln ?_
 refine s_mv (aops_nil (aw_block ?_))
 obtain ⟨o1,ho1,h⟩:=bind_s h
 refine aw_loop_x (ι:={p:Nat×Nat // zaJ k a0 p.1 p.2=some o1}) (fun p=>(⟨19,[],[(0,.one (CV.ls c_Int a0)),(1,.one (.fn 99 [])),(7,vI ((a0.length:Nat):Int)),(8,vI ((p.1.2:Nat):Int))],[]⟩:ASt)) (fun p=>p.1.1) ⟨(k,0),ho1⟩ wk 0 (ε:=Unit) (fun x=>(⟨19,[],[],[]⟩:ASt)) (fun x=>Sum.inl x=o1) (fun _ _ w h=>aw_weak w h) ?_ ?_
 ·intro x1_0 hI1
  subst hI1
  replace h:=onS_l h
  refine aw_seq (aw_region (s_sa (aops_nil ?_)))
  cases sj h
  exact aw_ret ⟨rfl,rv r1⟩
 intro p1
 obtain ⟨⟨n1,s1_0⟩,l1⟩:=p1
 replace l1:zaJ k a0 n1 s1_0=some o1:=l1
 rcases n1 with _|n1
 ·exact absurd (show none=some o1 from l1) nofun
 rw [zaJ] at l1
 refine aw_seq (aw_region (s_cm (aops_nil (aw_seq ?_))))
 refine aw_if l1 (fun c2 l1=>?_) (fun c2 l1=>?_)
 ·refine aw_skip (aw_seq (aw_block (aw_seq (aw_region (s_mv ?_)))))
  refine s_sa (aops_nil (aw_seq (aw_region ?_)))
  iterate 3 refine s_mv ?_
  obtain ⟨g3,l1⟩:=ifp_s l1
  refine zaa rfl (zaf rfl rfl rfl g3 rfl rfl) (zaa rfl (zas rfl rfl rfl) ?_)
  obtain ⟨x4,hx4,l1⟩:=bind_s l1
  refine zaa rfl (ev_callee rfl (ev_call_v (zgA hx4) rfl [] ai rfl rfl rfl (.inl rfl) rfl)) (aops_nil ?_)
  refine aw_if l1 (fun c5 l1=>?_) (fun c5 l1=>?_)
  ·refine aw_seq (aw_region (s_mv ?_))
   refine s_sa (aops_nil ?_)
   cases sj l1
   replace h:=onS_r h
   cases sj h
   exact aw_ret ⟨rfl,rv r1⟩
  refine aw_skip (aw_region ?_)
  obtain ⟨g6,l1⟩:=ifp_s l1
  refine zaa rfl (ev_add rfl rfl rfl (nat_add g6)) (s_mv (aops_nil ?_))
  exact ⟨⟨(n1,(s1_0+1)),l1⟩,Nat.lt_succ_self _,wk⟩
 refine aw_exit ?_
 show ∃_x:Unit,_=_∧Weak _ _
 exact ⟨(),sj l1,wk⟩
set_option maxHeartbeats 2000000 in
theorem zdx {k:Nat} {a0:List Int} {r:Bool} (h:zbq k a0=some r):FnC Tryz.prog 98 [.one (CV.ls c_Int a0),.one (.fn 99 [])] [] (Det (vB r) []):=by
 unfold zbq at h
 refine fn_intro' 9 Tryz.func98 rfl rfl rfl (aw_seq (aw_region (s_sa ?_)))
 refine aops_nil (aw_seq (aw_region ?_))
 iterate 2 refine s_mv ?_
 obtain ⟨x1,hx1,h⟩:=bind_s h
 refine zaa rfl (ev_call_v (zdI hx1) rfl [] ai rfl rfl rfl (.inl rfl) rfl) (s_cm ?_)
 refine s_sa (aops_nil ?_)
 cases sj h
 exact aw_ret ⟨rfl,rv r1⟩
set_option maxHeartbeats 2000000 in
theorem zdB {k:Nat} {a0:List Int} {r:Bool} (h:zdN k a0=some r):FnC Tryz.prog 77 [.one (CV.ls c_Int a0)] [] (Det (vB r) []):=by
 unfold zdN at h
 refine fn_intro' 6 Tryz.func77 rfl rfl rfl (aw_seq (aw_region (s_sa ?_)))
 refine aops_nil (aw_seq (aw_region (s_mv ?_)))
 obtain ⟨x1,hx1,h⟩:=bind_s h
 refine zaa rfl (ev_call_v (zdx hx1) rfl [] ai rfl rfl rfl (.inl rfl) rfl) (s_nt ?_)
 refine s_sa (aops_nil ?_)
 cases sj h
 exact aw_ret ⟨rfl,rv r1⟩
set_option maxHeartbeats 2000000 in
theorem zgm {k:Nat} {a0:CodeType} {c0:List UInt8} {r:Bool} (h:zeD k a0 c0=some r):FnC Tryz.prog 28 [.agg (zab a0),.one (.cptr [.val (Sv c0)])] [] (Det (vB r) []):=by
 unfold zeD at h
 refine fn_intro' 8 Tryz.func28 rfl rfl rfl (aw_seq (aw_region (zaa rfl (st_box 0 rfl rfl rfl rfl) (s_sa ?_))))
 refine aops_nil (aw_seq (aw_region (s_fd ?_)))
 refine s_ld ?_
 refine zaa rfl (zas rfl rfl rfl) (zaa rfl (st_str_eq rfl rfl rfl) (s_sa (aops_nil ?_)))
 cases sj h
 exact aw_ret ⟨rfl,rv r1⟩
set_option maxHeartbeats 2000000 in
theorem zcE {k:Nat} {a0:List CodeType} {c1_0:List UInt8} {r:Int} (h:zbm k a0 c1_0=some r):FnC Tryz.prog 68 [.one (CV.ls zab a0),.one (.fn 28 [.cptr [.val (Sv c1_0)]])] [] (Det (vI r) []):=by
 unfold zbm at h
 refine fn_intro' 19 Tryz.func68 rfl rfl rfl (aw_seq (aw_region (s_sa ?_)))
 refine aops_nil (aw_seq (aw_seq (aw_region (s_mv ?_))))
 refine s_ln ?_
 refine s_mv (aops_nil (aw_block ?_))
 obtain ⟨o1,ho1,h⟩:=bind_s h
 refine aw_loop_x (ι:={p:Nat×Nat // zax k a0 c1_0 p.1 p.2=some o1}) (fun p=>(⟨19,[],[(0,.one (CV.ls zab a0)),(1,.one (.fn 28 [.cptr [.val (Sv c1_0)]])),(7,vI ((a0.length:Nat):Int)),(8,vI ((p.1.2:Nat):Int))],[]⟩:ASt)) (fun p=>p.1.1) ⟨(k,0),ho1⟩ wk 0 (ε:=Unit) (fun x=>(⟨19,[],[],[]⟩:ASt)) (fun x=>Sum.inl x=o1) (fun _ _ w h=>aw_weak w h) ?_ ?_
 ·intro x1_0 hI1
  subst hI1
  replace h:=onS_l h
  refine aw_seq (aw_region (s_sa (aops_nil ?_)))
  cases sj h
  exact aw_ret ⟨rfl,rv r1⟩
 intro p1
 obtain ⟨⟨n1,s1_0⟩,l1⟩:=p1
 replace l1:zax k a0 c1_0 n1 s1_0=some o1:=l1
 rcases n1 with _|n1
 ·exact absurd (show none=some o1 from l1) nofun
 rw [zax] at l1
 refine aw_seq (aw_region (s_cm (aops_nil (aw_seq ?_))))
 refine aw_if l1 (fun c2 l1=>?_) (fun c2 l1=>?_)
 ·refine aw_skip (aw_seq (aw_block (aw_seq (aw_region (s_mv ?_)))))
  refine s_sa (aops_nil (aw_seq (aw_region ?_)))
  iterate 3 refine s_mv ?_
  obtain ⟨g3,l1⟩:=ifp_s l1
  refine zaa rfl (zaf rfl rfl rfl g3 rfl rfl) (zaa rfl (zaI (ds:=[_,_,_]) rfl rfl rfl rfl) ?_)
  obtain ⟨x4,hx4,l1⟩:=bind_s l1
  refine zaa rfl (zee (zgm hx4) rfl rfl [] ai rfl rfl rfl (.inl rfl) rfl) (aops_nil ?_)
  refine aw_if l1 (fun c5 l1=>?_) (fun c5 l1=>?_)
  ·refine aw_seq (aw_region (s_mv ?_))
   refine s_sa (aops_nil ?_)
   cases sj l1
   replace h:=onS_r h
   cases sj h
   exact aw_ret ⟨rfl,rv r1⟩
  refine aw_skip (aw_region ?_)
  obtain ⟨g6,l1⟩:=ifp_s l1
  refine zaa rfl (ev_add rfl rfl rfl (nat_add g6)) (s_mv (aops_nil ?_))
  exact ⟨⟨(n1,(s1_0+1)),l1⟩,Nat.lt_succ_self _,wk⟩
 refine aw_exit ?_
 show ∃_x:Unit,_=_∧Weak _ _
 exact ⟨(),sj l1,wk⟩
set_option maxHeartbeats 2000000 in
theorem zeo {k:Nat} {a0:List CodeType} {c1_0:List UInt8} {r:Int×Bool} (h:zcK k a0 c1_0=some r):FnC Tryz.prog 27 [.one (CV.ls zab a0),.one (.fn 28 [.cptr [.val (Sv c1_0)]])] [] (Det (.tup [vI r.1,vB r.2]) []):=by
 unfold zcK at h
 refine fn_intro' 14 Tryz.func27 rfl rfl rfl (aw_seq (aw_region ?_))
 iterate 2 refine s_sa ?_
 refine aops_nil (aw_seq (aw_region ?_))
 iterate 2 refine s_mv ?_
 obtain ⟨x1,hx1,h⟩:=bind_s h
 refine zaa rfl (ev_call_v (zcE hx1) rfl [] ai rfl rfl rfl (.inl rfl) rfl) (s_sa ?_)
 refine aops_nil (aw_seq (aw_region (s_mv ?_)))
 refine zaa rfl (ev_max rfl rfl rfl (int_max _ _)) (s_mv ?_)
 refine s_cm ?_
 iterate 2 refine s_sa ?_
 refine aops_nil ?_
 cases sj h
 exact aw_ret ⟨rfl,rv (rn (.cons o1 (.cons o1 .nil)))⟩
set_option maxHeartbeats 2000000 in
theorem zgF {k:Nat} {a0:Code} {a1:List UInt8} {r:Int×Bool} (h:zfe k a0 a1=some r):FnC Tryz.prog 13 [.agg [CV.ls zab a0.Types],.one (.val (Sv a1))] [] (Det (.tup [vI r.1,vB r.2]) []):=by
 unfold zfe at h
 refine fn_intro' 12 Tryz.func13 rfl rfl rfl (aw_seq (aw_region (zaa rfl (st_box 0 rfl rfl rfl rfl) (zaa rfl (st_box 1 rfl rfl rfl rfl) ?_))))
 iterate 2 refine s_sa ?_
 refine aops_nil (aw_frbox 1 rfl (aw_seq (aw_region (s_fd ?_))))
 refine s_ld ?_
 refine zaa rfl (zeK [.cptr [.val (Sv a1)]] rfl rfl rfl) ?_
 obtain ⟨x1,hx1,h⟩:=bind_s h
 refine zaa rfl (ev_call_v (zeo hx1) rfl [] ai rfl rfl rfl (.inl rfl) rfl) ?_
 iterate 2 refine s_ex ?_
 iterate 2 refine s_sa ?_
 refine aops_nil ?_
 cases sj h
 exact aw_ret ⟨rfl,rv (rn (.cons o1 (.cons o1 .nil)))⟩
end Md
end Go.Proofs.YtclffekkjfhpdaaGreat

