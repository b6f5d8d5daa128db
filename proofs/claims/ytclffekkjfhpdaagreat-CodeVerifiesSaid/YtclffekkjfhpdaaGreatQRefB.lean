import Derived.Test.YtclffekkjfhpdaaGreatQAbsSw
import Derived.Test.YtclffekkjfhpdaaGreatQMo
import Derived.Test.YtclffekkjfhpdaaGreatQTy
import Derived.Test.YtclffekkjfhpdaaGreatQAbsS
import Derived.Test.YtclffekkjfhpdaaGreatQRefA
namespace Go.Proofs.YtclffekkjfhpdaaGreat
open Go.ChangeShapes Go.WideShapes Go.RowKit
open Abs
set_option linter.unusedVariables false
set_option linter.unusedSimpArgs false
set_option maxRecDepth 10000
namespace Md
set_option maxHeartbeats 2000000 in
theorem zgh {k:Nat} {a0:Code} {a1:CodeType} {a2:CodeMethod} {a3:Instr} {r:Bool} (h:zdr k a0 a1 a2 a3=some r):FnC Tryz.prog 86 [.agg [CV.ls zab a0.Types],.agg (zab a1),.agg (zad a2),.agg (c_Instr a3)] [] (Det (vB r) []):=by
 unfold zdr at h
 refine fn_intro' 137 Tryz.func86 rfl rfl rfl (aw_seq (aw_region (zaa rfl (st_box 0 rfl rfl rfl rfl) (zaa rfl (st_box 1 rfl rfl rfl rfl) ?_))))
 refine zaa rfl (st_box 2 rfl rfl rfl rfl) (zaa rfl (st_box 3 rfl rfl rfl rfl) (s_sa ?_))
 refine aops_nil (aw_seq (aw_region (zaa rfl (ev_build' (out:=[_,_,_,_,_]) rfl rfl rfl rfl rfl) ?_)))
 refine zaa rfl (st_alloc (cs:=[cI 0,cI 0,.val (Sv []),.val (.slice none 0 0),.val (.slice none 0 0)]) 4 rfl rfl rfl rfl rfl) (s_st [_,_,_,_,_] (aops_nil (aw_seq (aw_region ?_))))
 iterate 2 refine s_sa ?_
 refine aops_nil (aw_seq (aw_region (s_fd ?_)))
 refine s_ld ?_
 refine s_cm ?_
 refine s_mv ?_
 refine bo 4 ((decide (a3.Op≥1))&&(decide (a3.Op≤36))) ?_
 refine s_sa (aops_nil ?_)
 obtain ⟨o2,j2,h⟩:=bind_s h
 refine aw_cutE o2 (fun x=>(⟨137,[],[(7,.one (.ptr 3 0)),(9,.one (.ptr 4 0)),(10,vI x.1),(11,vI x.2.1),(12,vB x.2.2.1)],[(3,some (.box (c_Instr a3))),(4,some (.box (c_Value x.2.2.2)))]⟩:ASt)) ?_ ?_
 ·refine aw_seq (aw_region ?_)
  iterate 2 refine s_mv ?_
  refine bo 5 (o2.2.2.1&&(a3.A==o2.1)) ?_
  refine s_mv ?_
  refine bo 5 ((o2.2.2.1&&(a3.A==o2.1))&&(a3.B==o2.2.1)) ?_
  refine s_mv ?_
  obtain ⟨o5,j5,h⟩:=bind_s h
  refine aops_cutE 5 o5 (fun x5=>(⟨137,[],[(136,vB x5)],[]⟩:ASt)) ?_ ?_
  ·refine s_sa (aops_nil ?_)
   cases sj h
   exact aw_ret ⟨rfl,rv r1⟩
  rcases co j5 with ⟨q5,j5⟩|⟨q5,j5⟩
  ·refine y_fd q5 ?_
   refine aops_yes rfl rfl rfl rfl q5 (ev_loads (ds:=[_,_,_,_,_]) rfl rfl rfl rfl rfl) ?_
   refine aops_yes rfl rfl rfl rfl q5 (ev_loads (ds:=[_,_,_,_,_]) rfl rfl rfl rfl rfl) ?_
   obtain ⟨x6,hx6,j5⟩:=bind_s j5
   refine aops_yes rfl rfl rfl rfl q5 (ev_call_v (zfE hx6) rfl [] ai rfl rfl rfl (.inl rfl) rfl) (s_py q5 (aops_nil ?_))
   exact jx j5 wk
  iterate 4 refine np q5 ?_
  refine s_pn q5 (aops_nil ?_)
  exact jx j5 wk
 refine aw_seq (aw_region (s_fd ?_))
 refine s_ld ?_
 refine aops_nil (aw_block (aw_seq (aw_region (s_cm ?_))))
 refine s_sa (aops_nil ?_)
 refine aw_if j2 (fun c7 j2=>?_) (fun c7 j2=>?_)
 ·refine aw_seq (aw_region (s_fd ?_))
  refine s_ls [_,_,_,_,_] ?_
  refine s_st [_,_,_,_,_] ?_
  refine aops_nil (aw_region (s_ls [_,_,_,_,_] ?_))
  obtain ⟨x8,hx8,j2⟩:=bind_s j2
  refine zaa rfl (ev_call_v (zel hx8) rfl [] ai rfl rfl rfl (.inl rfl) rfl) (s_mv ?_)
  refine bo 4 (x8&&(a3.Value.Kind != 0)) ?_
  refine s_sa (aops_nil ?_)
  exact jx j2 wk
 obtain ⟨o10,j10,j2⟩:=bind_s j2
 refine aw_cutE o10 (fun x=>(⟨137,[],[(4,.one (.ptr 0 0)),(5,.one (.ptr 1 0)),(6,.one (.ptr 2 0)),(7,.one (.ptr 3 0)),(9,.one (.ptr 4 0)),(10,vI 0),(11,vI 0),(12,vB ((decide (a3.Op≥1))&&(decide (a3.Op≤36)))),(23,vI a3.Op),(35,vB x)],[(0,some (.box [CV.ls zab a0.Types])),(1,some (.box (zab a1))),(2,some (.box (zad a2))),(3,some (.box (c_Instr a3))),(4,some (.box [cI 0,cI 0,.val (Sv []),.val (.slice none 0 0),.val (.slice none 0 0)]))]⟩:ASt)) ?_ ?_
 ·refine aw_if j2 (fun c11 j2=>?_) (fun c11 j2=>?_)
  ·refine aw_seq (aw_region (s_fd ?_))
   refine s_ld ?_
   refine s_sa ?_
   refine aops_nil (aw_region (s_mv ?_))
   refine s_cm ?_
   refine s_mv ?_
   refine bo 6 ((decide (a3.A≥0))&&(decide (a3.A<((a2.Locals.length:Nat):Int)))) ?_
   refine s_sa (aops_nil ?_)
   exact jx j2 wk
  obtain ⟨o13,j13,j2⟩:=bind_s j2
  refine aw_cutE o13 (fun x=>(⟨137,[],[(4,.one (.ptr 0 0)),(5,.one (.ptr 1 0)),(6,.one (.ptr 2 0)),(7,.one (.ptr 3 0)),(9,.one (.ptr 4 0)),(10,vI 0),(11,vI 0),(12,vB ((decide (a3.Op≥1))&&(decide (a3.Op≤36)))),(23,vI a3.Op),(49,vB x)],[(0,some (.box [CV.ls zab a0.Types])),(1,some (.box (zab a1))),(2,some (.box (zad a2))),(3,some (.box (c_Instr a3))),(4,some (.box [cI 0,cI 0,.val (Sv []),.val (.slice none 0 0),.val (.slice none 0 0)]))]⟩:ASt)) ?_ ?_
  ·refine aw_if j2 (fun c14 j2=>?_) (fun c14 j2=>?_)
   ·refine aw_seq (aw_region (s_fd ?_))
    refine s_ld ?_
    refine s_sa ?_
    refine aops_nil (aw_region (s_mv ?_))
    refine s_cm ?_
    refine s_mv ?_
    refine bo 6 ((decide (a3.A≥0))&&(decide (a3.A<((a1.Fields.length:Nat):Int)))) ?_
    refine s_sa (aops_nil ?_)
    exact jx j2 wk
   obtain ⟨o16,j16,j2⟩:=bind_s j2
   refine aw_cutE o16 (fun x=>(⟨137,[],[(4,.one (.ptr 0 0)),(6,.one (.ptr 2 0)),(7,.one (.ptr 3 0)),(9,.one (.ptr 4 0)),(10,vI 0),(11,vI 0),(12,vB ((decide (a3.Op≥1))&&(decide (a3.Op≤36)))),(23,vI a3.Op),(63,vB x)],[(0,some (.box [CV.ls zab a0.Types])),(2,some (.box (zad a2))),(3,some (.box (c_Instr a3))),(4,some (.box [cI 0,cI 0,.val (Sv []),.val (.slice none 0 0),.val (.slice none 0 0)]))]⟩:ASt)) ?_ ?_
   ·refine aw_if j2 (fun c17 j2=>?_) (fun c17 j2=>?_)
    ·refine aw_seq (aw_region (s_fd ?_))
     refine s_ld ?_
     refine s_sa ?_
     refine aops_nil (aw_region (s_mv ?_))
     refine s_cm ?_
     refine s_mv ?_
     refine bo 3 ((decide (a3.A≥0))&&(decide (a3.A≤16))) ?_
     refine s_sa (aops_nil ?_)
     exact jx j2 wk
    obtain ⟨o19,j19,j2⟩:=bind_s j2
    refine aw_cutE o19 (fun x=>(⟨137,[],[(4,.one (.ptr 0 0)),(6,.one (.ptr 2 0)),(7,.one (.ptr 3 0)),(9,.one (.ptr 4 0)),(10,vI 0),(11,vI 0),(12,vB ((decide (a3.Op≥1))&&(decide (a3.Op≤36)))),(23,vI a3.Op),(74,vB x)],[(0,some (.box [CV.ls zab a0.Types])),(2,some (.box (zad a2))),(3,some (.box (c_Instr a3))),(4,some (.box [cI 0,cI 0,.val (Sv []),.val (.slice none 0 0),.val (.slice none 0 0)]))]⟩:ASt)) ?_ ?_
    ·refine aw_if j2 (fun c20 j2=>?_) (fun c20 j2=>?_)
     ·refine aw_seq (aw_region (s_fd ?_))
      refine s_ld ?_
      refine s_sa ?_
      refine aops_nil (aw_region (s_mv ?_))
      refine s_cm ?_
      refine s_mv ?_
      refine bo 6 ((decide (a3.A≥0))&&(decide (a3.A<((a2.Code.length:Nat):Int)))) ?_
      refine s_sa (aops_nil ?_)
      exact jx j2 wk
     refine aw_seq (aw_region (s_cm ?_))
     refine s_sa (aops_nil ?_)
     refine aw_if j2 (fun c22 j2=>?_) (fun c22 j2=>?_)
     ·refine aw_seq (aw_region (s_fd ?_))
      refine s_ld ?_
      refine s_sa ?_
      refine aops_nil (aw_seq (aw_region (s_fd ?_)))
      refine s_ld ?_
      refine s_sa ?_
      refine aops_nil (aw_region (s_mv ?_))
      refine s_cm ?_
      refine s_mv ?_
      refine bo 6 ((decide (a3.A≥0))&&(decide (a3.A<((a0.Types.length:Nat):Int)))) ?_
      refine s_mv ?_
      refine bo 3 (((decide (a3.A≥0))&&(decide (a3.A<((a0.Types.length:Nat):Int))))&&(decide (a3.B≥0))) ?_
      refine s_mv ?_
      obtain ⟨o25,j25,j2⟩:=bind_s j2
      refine aops_cutE 10 o25 (fun x25=>(⟨137,[],[(7,.one (.ptr 3 0)),(9,.one (.ptr 4 0)),(10,vI a3.A),(11,vI a3.B),(12,vB ((decide (a3.Op≥1))&&(decide (a3.Op≤36)))),(117,vB x25)],[(3,some (.box (c_Instr a3))),(4,some (.box [cI 0,cI 0,.val (Sv []),.val (.slice none 0 0),.val (.slice none 0 0)]))]⟩:ASt)) ?_ ?_
      ·refine s_sa (aops_nil ?_)
       exact jx j2 wk
      rcases co j25 with ⟨q25,j25⟩|⟨q25,j25⟩
      ·refine y_mv q25 ?_
       refine y_fd q25 ?_
       refine y_ld q25 ?_
       refine y_mv q25 ?_
       obtain ⟨g26,j25⟩:=ifp_s j25
       refine aops_yes rfl rfl rfl rfl q25 (zaf rfl rfl (idx_eq g26) (idx_lt g26) rfl rfl) (aops_yes rfl rfl rfl rfl q25 (zaM rfl rfl rfl) ?_)
       refine aops_yes rfl rfl rfl rfl q25 (zas rfl rfl rfl) (y_ln q25 ?_)
       refine y_cm q25 ?_
       refine s_py q25 (aops_nil ?_)
       exact jx j25 wk
      iterate 9 refine np q25 ?_
      refine s_pn q25 (aops_nil ?_)
      exact jx j25 wk
     refine aw_skip ?_
     exact jx j2 wk
    refine aw_seq (aw_region (s_cm ?_))
    refine s_sa (aops_nil ?_)
    refine aw_if j19 (fun c27 j19=>?_) (fun c27 j19=>?_)
    ·refine aw_skip ?_
     exact jx j19 wk
    refine aw_region (s_cm ?_)
    refine s_sa (aops_nil ?_)
    exact jx j19 wk
   refine aw_seq (aw_region (s_cm ?_))
   refine s_sa (aops_nil ?_)
   refine aw_if j16 (fun c28 j16=>?_) (fun c28 j16=>?_)
   ·refine aw_skip ?_
    exact jx j16 wk
   refine aw_region (s_cm ?_)
   refine s_sa (aops_nil ?_)
   exact jx j16 wk
  refine aw_seq (aw_region (s_cm ?_))
  refine s_sa (aops_nil ?_)
  refine aw_if j13 (fun c29 j13=>?_) (fun c29 j13=>?_)
  ·refine aw_skip ?_
   exact jx j13 wk
  refine aw_region (s_cm ?_)
  refine s_sa (aops_nil ?_)
  exact jx j13 wk
 refine aw_seq (aw_region (s_cm ?_))
 refine s_sa (aops_nil ?_)
 refine aw_if j10 (fun c30 j10=>?_) (fun c30 j10=>?_)
 ·refine aw_skip ?_
  exact jx j10 wk
 refine aw_region (s_cm ?_)
 refine s_sa (aops_nil ?_)
 exact jx j10 wk
set_option maxHeartbeats 2000000 in
theorem zfV {k:Nat} {a0:Code} {a1:CodeType} {a2:CodeMethod} {r:Bool} (h:zdm k a0 a1 a2=some r):FnC Tryz.prog 51 [.agg [CV.ls zab a0.Types],.agg (zab a1),.agg (zad a2)] [] (Det (vB r) []):=by
 unfold zdm at h
 refine fn_intro' 84 Tryz.func51 rfl rfl rfl (aw_seq (aw_region (zaa rfl (st_box 0 rfl rfl rfl rfl) (zaa rfl (st_box 1 rfl rfl rfl rfl) ?_))))
 refine zaa rfl (st_box 2 rfl rfl rfl rfl) (s_sa (aops_nil (aw_seq ?_)))
 obtain ⟨x1,hx1,h⟩:=bind_s h
 rcases co h with ⟨q2,h⟩|⟨q2,h⟩
 ·refine aw_seq ?_
  apply aw_draw 40 [ad _,ad _,ad _,ad _,ad _,ad _,ad _,ad _,ad _,ad _,ad _,ad _,ad _,ad _,ad _,ad _,ad _,ad _,ad _,ad _,ad _,ad _,ad _,ad _,ad _,ad _,ad _,ad _,ad _,ad _,ad _,ad _,ad _,ad _,ad _,ad _,ad _,ad _,ad _,ad _] (by decide) rfl ?hk10x ?hf10x ?ho10x ?hr10x
  case ho10x =>
   refine o_fd 0 ?_
   refine o_ld 1 ?_
   refine obn 3 (fun S hle hfr=>.inl ⟨w0,ev_call_v (zbl hx1) (map_ev (.cons (hle.e rfl) (.nil))) [] (by repeat' (first|exact .nil|refine .cons ?_ ?_|refine .one ?_|refine .agg ?_|exact .mk rfl|exact .lend (hle.heap _ _ rfl) (by simp)|exact .le (.nil _) rfl|exact .le (.emp _) rfl|exact .le (.any _) rfl|fail)) rfl rfl rfl (.inl rfl) (hle.d rfl)⟩) ?_
   refine o_nt 7 ?_
   refine o_mv 15 ?_
   refine on 31 q2 ?_
   refine on 63 q2 ?_
   refine on 127 q2 ?_
   refine on 255 q2 ?_
   refine obn 511 (fun S hle hfr=>.inl ⟨w0,zau (hle.e rfl) (by first|rfl|exact q2) (hle.e rfl) (hle.d rfl)⟩) ?_
   refine o_mv 1023 ?_
   refine on 2047 trivial ?_
   refine on 4095 trivial ?_
   refine on 8191 trivial ?_
   refine on 16383 trivial ?_
   refine obn 32767 (fun S hle hfr=>.inl ⟨w0,zau (hle.e rfl) (by first|rfl|exact rfl) (hle.e rfl) (hle.d rfl)⟩) ?_
   refine o_mv 65535 ?_
   refine on 131071 trivial ?_
   refine on 262143 trivial ?_
   refine on 524287 trivial ?_
   refine on 131071 trivial ?_
   refine on 1179647 trivial ?_
   refine on 3276799 trivial ?_
   refine on 8388607 trivial ?_
   refine obn 16777215 (fun S hle hfr=>.inl ⟨w0,zau (hle.e rfl) (by first|rfl|exact rfl) (hle.e rfl) (hle.d rfl)⟩) ?_
   refine o_mv 33554431 ?_
   refine on 67108863 trivial ?_
   refine on 134217727 trivial ?_
   refine on 268435455 trivial ?_
   refine on 536870911 trivial ?_
   refine obn 1073741823 (fun S hle hfr=>.inl ⟨w0,zau (hle.e rfl) (by first|rfl|exact rfl) (hle.e rfl) (hle.d rfl)⟩) ?_
   refine o_mv 2147483647 ?_
   refine on 4294967295 trivial ?_
   refine on 8589934591 trivial ?_
   refine on 4294967295 trivial ?_
   refine on 21474836479 trivial ?_
   refine on 4294967295 trivial ?_
   refine on 73014444031 trivial ?_
   refine on 210453397503 trivial ?_
   refine on 536870911999 trivial ?_
   exact trivial
  case hk10x=>rfl
  case hf10x=>rfl
  refine aops_no rfl rfl rfl rfl rfl (by decide) (aops_no rfl rfl rfl rfl rfl (by decide) (zaa rfl (zau rfl (by first|rfl|exact rfl) rfl rfl) (s_mv ?_)))
  iterate 3 refine aops_no rfl rfl rfl rfl rfl (by decide) ?_
  refine zaa rfl (zau rfl (by first|rfl|exact rfl) rfl rfl) (s_mv ?_)
  iterate 3 refine aops_no rfl rfl rfl rfl rfl (by decide) ?_
  refine zaa rfl (zau rfl (by first|rfl|exact rfl) rfl rfl) (s_mv ?_)
  iterate 4 refine aops_no rfl rfl rfl rfl rfl (by decide) ?_
  refine zaa rfl (zau rfl (by first|rfl|exact rfl) rfl rfl) (aops_nil (aw_yes rfl (rfl) (aw_seq (aw_region (s_sa (aops_nil ?_))))))
  cases sj h
  exact aw_ret ⟨rfl,rv r1⟩
 rcases co h with ⟨q3,h⟩|⟨q3,h⟩
 ·refine aw_seq ?_
  apply aw_draw 40 [ad _,ad _,ad _,ad _,ad _,ad _,ad _,ad _,ad _,ad _,ad _,ad _,ad _,ad _,ad _,ad _,ad _,ad _,ad _,ad _,ad _,ad _,ad _,ad _,ad _,ad _,ad _,ad _,ad _,ad _,ad _,ad _,ad _,ad _,ad _,ad _,ad _,ad _,ad _,ad _] (by decide) rfl ?hk11x ?hf11x ?ho11x ?hr11x
  case ho11x =>
   refine o_fd 0 ?_
   refine o_ld 1 ?_
   refine obn 3 (fun S hle hfr=>.inl ⟨w0,ev_call_v (zbl hx1) (map_ev (.cons (hle.e rfl) (.nil))) [] (by repeat' (first|exact .nil|refine .cons ?_ ?_|refine .one ?_|refine .agg ?_|exact .mk rfl|exact .lend (hle.heap _ _ rfl) (by simp)|exact .le (.nil _) rfl|exact .le (.emp _) rfl|exact .le (.any _) rfl|fail)) rfl rfl rfl (.inl rfl) (hle.d rfl)⟩) ?_
   refine o_nt 7 ?_
   refine o_mv 15 ?_
   refine p_fd 31 q2 ?_
   refine p_ld 63 q2 ?_
   refine p_ln 127 q2 ?_
   refine p_cm 255 q2 ?_
   refine obn 511 (fun S hle hfr=>.inl ⟨w0,zaz (hle.e rfl) (by first|rfl|exact q2) (hle.e rfl) (hle.d rfl)⟩) ?_
   refine o_mv 1023 ?_
   refine on 2047 q3 ?_
   refine on 4095 q3 ?_
   refine on 8191 q3 ?_
   refine on 16383 q3 ?_
   refine obn 32767 (fun S hle hfr=>.inl ⟨w0,zau (hle.e rfl) (by first|rfl|exact q3) (hle.e rfl) (hle.d rfl)⟩) ?_
   refine o_mv 65535 ?_
   refine on 131071 trivial ?_
   refine on 262143 trivial ?_
   refine on 524287 trivial ?_
   refine on 131071 trivial ?_
   refine on 1179647 trivial ?_
   refine on 3276799 trivial ?_
   refine on 8388607 trivial ?_
   refine obn 16777215 (fun S hle hfr=>.inl ⟨w0,zau (hle.e rfl) (by first|rfl|exact rfl) (hle.e rfl) (hle.d rfl)⟩) ?_
   refine o_mv 33554431 ?_
   refine on 67108863 trivial ?_
   refine on 134217727 trivial ?_
   refine on 268435455 trivial ?_
   refine on 536870911 trivial ?_
   refine obn 1073741823 (fun S hle hfr=>.inl ⟨w0,zau (hle.e rfl) (by first|rfl|exact rfl) (hle.e rfl) (hle.d rfl)⟩) ?_
   refine o_mv 2147483647 ?_
   refine on 4294967295 trivial ?_
   refine on 8589934591 trivial ?_
   refine on 4294967295 trivial ?_
   refine on 21474836479 trivial ?_
   refine on 4294967295 trivial ?_
   refine on 73014444031 trivial ?_
   refine on 210453397503 trivial ?_
   refine on 536870911999 trivial ?_
   exact trivial
  case hk11x=>rfl
  case hf11x=>rfl
  refine aops_no rfl rfl rfl rfl rfl (by decide) (aops_no rfl rfl rfl rfl rfl (by decide) (zaa rfl (zau rfl (by first|rfl|exact rfl) rfl rfl) (s_mv ?_)))
  iterate 3 refine aops_no rfl rfl rfl rfl rfl (by decide) ?_
  refine zaa rfl (zau rfl (by first|rfl|exact rfl) rfl rfl) (s_mv ?_)
  iterate 3 refine aops_no rfl rfl rfl rfl rfl (by decide) ?_
  refine zaa rfl (zau rfl (by first|rfl|exact rfl) rfl rfl) (s_mv ?_)
  iterate 4 refine aops_no rfl rfl rfl rfl rfl (by decide) ?_
  refine zaa rfl (zau rfl (by first|rfl|exact rfl) rfl rfl) (aops_nil (aw_yes rfl (rfl) (aw_seq (aw_region (s_sa (aops_nil ?_))))))
  cases sj h
  exact aw_ret ⟨rfl,rv r1⟩
 rcases co h with ⟨q4,h⟩|⟨q4,h⟩
 ·refine aw_seq ?_
  apply aw_draw 40 [ad _,ad _,ad _,ad _,ad _,ad _,ad _,ad _,ad _,ad _,ad _,ad _,ad _,ad _,ad _,ad _,ad _,ad _,ad _,ad _,ad _,ad _,ad _,ad _,ad _,ad _,ad _,ad _,ad _,ad _,ad _,ad _,ad _,ad _,ad _,ad _,ad _,ad _,ad _,ad _] (by decide) rfl ?hk12x ?hf12x ?ho12x ?hr12x
  case ho12x =>
   refine o_fd 0 ?_
   refine o_ld 1 ?_
   refine obn 3 (fun S hle hfr=>.inl ⟨w0,ev_call_v (zbl hx1) (map_ev (.cons (hle.e rfl) (.nil))) [] (by repeat' (first|exact .nil|refine .cons ?_ ?_|refine .one ?_|refine .agg ?_|exact .mk rfl|exact .lend (hle.heap _ _ rfl) (by simp)|exact .le (.nil _) rfl|exact .le (.emp _) rfl|exact .le (.any _) rfl|fail)) rfl rfl rfl (.inl rfl) (hle.d rfl)⟩) ?_
   refine o_nt 7 ?_
   refine o_mv 15 ?_
   refine p_fd 31 q2 ?_
   refine p_ld 63 q2 ?_
   refine p_ln 127 q2 ?_
   refine p_cm 255 q2 ?_
   refine obn 511 (fun S hle hfr=>.inl ⟨w0,zaz (hle.e rfl) (by first|rfl|exact q2) (hle.e rfl) (hle.d rfl)⟩) ?_
   refine o_mv 1023 ?_
   refine p_fd 2047 q3 ?_
   refine p_ld 4095 q3 ?_
   refine p_ln 8191 q3 ?_
   refine p_cm 16383 q3 ?_
   refine obn 32767 (fun S hle hfr=>.inl ⟨w0,zaz (hle.e rfl) (by first|rfl|exact q3) (hle.e rfl) (hle.d rfl)⟩) ?_
   refine o_mv 65535 ?_
   refine on 131071 q4 ?_
   refine on 262143 q4 ?_
   refine on 524287 q4 ?_
   refine on 131071 q4 ?_
   refine on 1179647 q4 ?_
   refine on 3276799 q4 ?_
   refine on 8388607 q4 ?_
   refine obn 16777215 (fun S hle hfr=>.inl ⟨w0,zau (hle.e rfl) (by first|rfl|exact q4) (hle.e rfl) (hle.d rfl)⟩) ?_
   refine o_mv 33554431 ?_
   refine on 67108863 trivial ?_
   refine on 134217727 trivial ?_
   refine on 268435455 trivial ?_
   refine on 536870911 trivial ?_
   refine obn 1073741823 (fun S hle hfr=>.inl ⟨w0,zau (hle.e rfl) (by first|rfl|exact rfl) (hle.e rfl) (hle.d rfl)⟩) ?_
   refine o_mv 2147483647 ?_
   refine on 4294967295 trivial ?_
   refine on 8589934591 trivial ?_
   refine on 4294967295 trivial ?_
   refine on 21474836479 trivial ?_
   refine on 4294967295 trivial ?_
   refine on 73014444031 trivial ?_
   refine on 210453397503 trivial ?_
   refine on 536870911999 trivial ?_
   exact trivial
  case hk12x=>rfl
  case hf12x=>rfl
  refine aops_no rfl rfl rfl rfl rfl (by decide) (aops_no rfl rfl rfl rfl rfl (by decide) (zaa rfl (zau rfl (by first|rfl|exact rfl) rfl rfl) (s_mv ?_)))
  iterate 3 refine aops_no rfl rfl rfl rfl rfl (by decide) ?_
  refine zaa rfl (zau rfl (by first|rfl|exact rfl) rfl rfl) (s_mv ?_)
  iterate 3 refine aops_no rfl rfl rfl rfl rfl (by decide) ?_
  refine zaa rfl (zau rfl (by first|rfl|exact rfl) rfl rfl) (s_mv ?_)
  iterate 4 refine aops_no rfl rfl rfl rfl rfl (by decide) ?_
  refine zaa rfl (zau rfl (by first|rfl|exact rfl) rfl rfl) (aops_nil (aw_yes rfl (rfl) (aw_seq (aw_region (s_sa (aops_nil ?_))))))
  cases sj h
  exact aw_ret ⟨rfl,rv r1⟩
 rcases co h with ⟨q5,h⟩|⟨q5,h⟩
 ·refine aw_seq ?_
  apply aw_draw 40 [ad _,ad _,ad _,ad _,ad _,ad _,ad _,ad _,ad _,ad _,ad _,ad _,ad _,ad _,ad _,ad _,ad _,ad _,ad _,ad _,ad _,ad _,ad _,ad _,ad _,ad _,ad _,ad _,ad _,ad _,ad _,ad _,ad _,ad _,ad _,ad _,ad _,ad _,ad _,ad _] (by decide) rfl ?hk13x ?hf13x ?ho13x ?hr13x
  case ho13x =>
   refine o_fd 0 ?_
   refine o_ld 1 ?_
   refine obn 3 (fun S hle hfr=>.inl ⟨w0,ev_call_v (zbl hx1) (map_ev (.cons (hle.e rfl) (.nil))) [] (by repeat' (first|exact .nil|refine .cons ?_ ?_|refine .one ?_|refine .agg ?_|exact .mk rfl|exact .lend (hle.heap _ _ rfl) (by simp)|exact .le (.nil _) rfl|exact .le (.emp _) rfl|exact .le (.any _) rfl|fail)) rfl rfl rfl (.inl rfl) (hle.d rfl)⟩) ?_
   refine o_nt 7 ?_
   refine o_mv 15 ?_
   refine p_fd 31 q2 ?_
   refine p_ld 63 q2 ?_
   refine p_ln 127 q2 ?_
   refine p_cm 255 q2 ?_
   refine obn 511 (fun S hle hfr=>.inl ⟨w0,zaz (hle.e rfl) (by first|rfl|exact q2) (hle.e rfl) (hle.d rfl)⟩) ?_
   refine o_mv 1023 ?_
   refine p_fd 2047 q3 ?_
   refine p_ld 4095 q3 ?_
   refine p_ln 8191 q3 ?_
   refine p_cm 16383 q3 ?_
   refine obn 32767 (fun S hle hfr=>.inl ⟨w0,zaz (hle.e rfl) (by first|rfl|exact q3) (hle.e rfl) (hle.d rfl)⟩) ?_
   refine o_mv 65535 ?_
   refine p_fd 131071 q4 ?_
   refine p_ld 262143 q4 ?_
   refine p_ln 524287 q4 ?_
   refine p_fd 131071 q4 ?_
   refine p_ld 1179647 q4 ?_
   refine p_ln 3276799 q4 ?_
   refine p_cm 8388607 q4 ?_
   refine obn 16777215 (fun S hle hfr=>.inl ⟨w0,zaz (hle.e rfl) (by first|rfl|exact q4) (hle.e rfl) (hle.d rfl)⟩) ?_
   refine o_mv 33554431 ?_
   refine on 67108863 q5 ?_
   refine on 134217727 q5 ?_
   refine on 268435455 q5 ?_
   refine on 536870911 q5 ?_
   refine obn 1073741823 (fun S hle hfr=>.inl ⟨w0,zau (hle.e rfl) (by first|rfl|exact q5) (hle.e rfl) (hle.d rfl)⟩) ?_
   refine o_mv 2147483647 ?_
   refine on 4294967295 trivial ?_
   refine on 8589934591 trivial ?_
   refine on 4294967295 trivial ?_
   refine on 21474836479 trivial ?_
   refine on 4294967295 trivial ?_
   refine on 73014444031 trivial ?_
   refine on 210453397503 trivial ?_
   refine on 536870911999 trivial ?_
   exact trivial
  case hk13x=>rfl
  case hf13x=>rfl
  refine aops_no rfl rfl rfl rfl rfl (by decide) (aops_no rfl rfl rfl rfl rfl (by decide) (zaa rfl (zau rfl (by first|rfl|exact rfl) rfl rfl) (s_mv ?_)))
  iterate 3 refine aops_no rfl rfl rfl rfl rfl (by decide) ?_
  refine zaa rfl (zau rfl (by first|rfl|exact rfl) rfl rfl) (s_mv ?_)
  iterate 3 refine aops_no rfl rfl rfl rfl rfl (by decide) ?_
  refine zaa rfl (zau rfl (by first|rfl|exact rfl) rfl rfl) (s_mv ?_)
  iterate 4 refine aops_no rfl rfl rfl rfl rfl (by decide) ?_
  refine zaa rfl (zau rfl (by first|rfl|exact rfl) rfl rfl) (aops_nil (aw_yes rfl (rfl) (aw_seq (aw_region (s_sa (aops_nil ?_))))))
  cases sj h
  exact aw_ret ⟨rfl,rv r1⟩
 obtain ⟨x6,hx6,h⟩:=bind_s h
 rcases co h with ⟨q7,h⟩|⟨q7,h⟩
 ·refine aw_seq ?_
  apply aw_draw 40 [ad _,ad _,ad _,ad _,ad _,ad _,ad _,ad _,ad _,ad _,ad _,ad _,ad _,ad _,ad _,ad _,ad _,ad _,ad _,ad _,ad _,ad _,ad _,ad _,ad _,ad _,ad _,ad _,ad _,ad _,ad _,ad _,ad _,ad _,ad _,ad _,ad _,ad _,ad _,ad _] (by decide) rfl ?hk14x ?hf14x ?ho14x ?hr14x
  case ho14x =>
   refine o_fd 0 ?_
   refine o_ld 1 ?_
   refine obn 3 (fun S hle hfr=>.inl ⟨w0,ev_call_v (zbl hx1) (map_ev (.cons (hle.e rfl) (.nil))) [] (by repeat' (first|exact .nil|refine .cons ?_ ?_|refine .one ?_|refine .agg ?_|exact .mk rfl|exact .lend (hle.heap _ _ rfl) (by simp)|exact .le (.nil _) rfl|exact .le (.emp _) rfl|exact .le (.any _) rfl|fail)) rfl rfl rfl (.inl rfl) (hle.d rfl)⟩) ?_
   refine o_nt 7 ?_
   refine o_mv 15 ?_
   refine p_fd 31 q2 ?_
   refine p_ld 63 q2 ?_
   refine p_ln 127 q2 ?_
   refine p_cm 255 q2 ?_
   refine obn 511 (fun S hle hfr=>.inl ⟨w0,zaz (hle.e rfl) (by first|rfl|exact q2) (hle.e rfl) (hle.d rfl)⟩) ?_
   refine o_mv 1023 ?_
   refine p_fd 2047 q3 ?_
   refine p_ld 4095 q3 ?_
   refine p_ln 8191 q3 ?_
   refine p_cm 16383 q3 ?_
   refine obn 32767 (fun S hle hfr=>.inl ⟨w0,zaz (hle.e rfl) (by first|rfl|exact q3) (hle.e rfl) (hle.d rfl)⟩) ?_
   refine o_mv 65535 ?_
   refine p_fd 131071 q4 ?_
   refine p_ld 262143 q4 ?_
   refine p_ln 524287 q4 ?_
   refine p_fd 131071 q4 ?_
   refine p_ld 1179647 q4 ?_
   refine p_ln 3276799 q4 ?_
   refine p_cm 8388607 q4 ?_
   refine obn 16777215 (fun S hle hfr=>.inl ⟨w0,zaz (hle.e rfl) (by first|rfl|exact q4) (hle.e rfl) (hle.d rfl)⟩) ?_
   refine o_mv 33554431 ?_
   refine p_fd 67108863 q5 ?_
   refine p_ld 134217727 q5 ?_
   refine obn 268435455 (fun S hle hfr=>.inl ⟨wy hle q5,ev_call_v (zcS hx6) (map_ev (.cons (hle.e rfl) (.nil))) [] (by repeat' (first|exact .nil|refine .cons ?_ ?_|refine .one ?_|refine .agg ?_|exact .mk rfl|exact .lend (hle.heap _ _ rfl) (by simp)|exact .le (.nil _) rfl|exact .le (.emp _) rfl|exact .le (.any _) rfl|fail)) rfl rfl rfl (.inl rfl) (hle.d rfl)⟩) ?_
   refine p_nt 536870911 q5 ?_
   refine obn 1073741823 (fun S hle hfr=>.inl ⟨w0,zaz (hle.e rfl) (by first|rfl|exact q5) (hle.e rfl) (hle.d rfl)⟩) ?_
   refine o_mv 2147483647 ?_
   refine on 4294967295 q7 ?_
   refine on 8589934591 q7 ?_
   refine on 4294967295 q7 ?_
   refine on 21474836479 q7 ?_
   refine on 4294967295 q7 ?_
   refine on 73014444031 q7 ?_
   refine on 210453397503 q7 ?_
   refine on 536870911999 q7 ?_
   exact trivial
  case hk14x=>rfl
  case hf14x=>rfl
  iterate 2 refine np q7 ?_
  refine s_py q7 ?_
  refine s_mv ?_
  iterate 3 refine aops_no rfl rfl rfl rfl rfl (by decide) ?_
  refine zaa rfl (zau rfl (by first|rfl|exact rfl) rfl rfl) (s_mv ?_)
  iterate 3 refine aops_no rfl rfl rfl rfl rfl (by decide) ?_
  refine zaa rfl (zau rfl (by first|rfl|exact rfl) rfl rfl) (s_mv ?_)
  iterate 4 refine aops_no rfl rfl rfl rfl rfl (by decide) ?_
  refine zaa rfl (zau rfl (by first|rfl|exact rfl) rfl rfl) (aops_nil (aw_yes rfl (rfl) (aw_seq (aw_region (s_sa (aops_nil ?_))))))
  cases sj h
  exact aw_ret ⟨rfl,rv r1⟩
 obtain ⟨g8,h⟩:=ifp_s h
 obtain ⟨x9,hx9,h⟩:=bind_s h
 rcases co h with ⟨q10,h⟩|⟨q10,h⟩
 ·refine aw_seq ?_
  apply aw_draw 40 [ad _,ad _,ad _,ad _,ad _,ad _,ad _,ad _,ad _,ad _,ad _,ad _,ad _,ad _,ad _,ad _,ad _,ad _,ad _,ad _,ad _,ad _,ad _,ad _,ad _,ad _,ad _,ad _,ad _,ad _,ad _,ad _,ad _,ad _,ad _,ad _,ad _,ad _,ad _,ad _] (by decide) rfl ?hk15x ?hf15x ?ho15x ?hr15x
  case ho15x =>
   refine o_fd 0 ?_
   refine o_ld 1 ?_
   refine obn 3 (fun S hle hfr=>.inl ⟨w0,ev_call_v (zbl hx1) (map_ev (.cons (hle.e rfl) (.nil))) [] (by repeat' (first|exact .nil|refine .cons ?_ ?_|refine .one ?_|refine .agg ?_|exact .mk rfl|exact .lend (hle.heap _ _ rfl) (by simp)|exact .le (.nil _) rfl|exact .le (.emp _) rfl|exact .le (.any _) rfl|fail)) rfl rfl rfl (.inl rfl) (hle.d rfl)⟩) ?_
   refine o_nt 7 ?_
   refine o_mv 15 ?_
   refine p_fd 31 q2 ?_
   refine p_ld 63 q2 ?_
   refine p_ln 127 q2 ?_
   refine p_cm 255 q2 ?_
   refine obn 511 (fun S hle hfr=>.inl ⟨w0,zaz (hle.e rfl) (by first|rfl|exact q2) (hle.e rfl) (hle.d rfl)⟩) ?_
   refine o_mv 1023 ?_
   refine p_fd 2047 q3 ?_
   refine p_ld 4095 q3 ?_
   refine p_ln 8191 q3 ?_
   refine p_cm 16383 q3 ?_
   refine obn 32767 (fun S hle hfr=>.inl ⟨w0,zaz (hle.e rfl) (by first|rfl|exact q3) (hle.e rfl) (hle.d rfl)⟩) ?_
   refine o_mv 65535 ?_
   refine p_fd 131071 q4 ?_
   refine p_ld 262143 q4 ?_
   refine p_ln 524287 q4 ?_
   refine p_fd 131071 q4 ?_
   refine p_ld 1179647 q4 ?_
   refine p_ln 3276799 q4 ?_
   refine p_cm 8388607 q4 ?_
   refine obn 16777215 (fun S hle hfr=>.inl ⟨w0,zaz (hle.e rfl) (by first|rfl|exact q4) (hle.e rfl) (hle.d rfl)⟩) ?_
   refine o_mv 33554431 ?_
   refine p_fd 67108863 q5 ?_
   refine p_ld 134217727 q5 ?_
   refine obn 268435455 (fun S hle hfr=>.inl ⟨wy hle q5,ev_call_v (zcS hx6) (map_ev (.cons (hle.e rfl) (.nil))) [] (by repeat' (first|exact .nil|refine .cons ?_ ?_|refine .one ?_|refine .agg ?_|exact .mk rfl|exact .lend (hle.heap _ _ rfl) (by simp)|exact .le (.nil _) rfl|exact .le (.emp _) rfl|exact .le (.any _) rfl|fail)) rfl rfl rfl (.inl rfl) (hle.d rfl)⟩) ?_
   refine p_nt 536870911 q5 ?_
   refine obn 1073741823 (fun S hle hfr=>.inl ⟨w0,zaz (hle.e rfl) (by first|rfl|exact q5) (hle.e rfl) (hle.d rfl)⟩) ?_
   refine o_mv 2147483647 ?_
   refine p_fd 4294967295 q7 ?_
   refine p_ld 8589934591 q7 ?_
   refine p_fd 4294967295 q7 ?_
   refine p_ld 21474836479 q7 ?_
   refine p_fd 4294967295 q7 ?_
   refine p_ld 73014444031 q7 ?_
   refine p_ln 210453397503 q7 ?_
   refine obn 536870911999 (fun S hle hfr=>.inl ⟨wy hle q7,st_cut_hi (f:=c_Int) (fun _=>rfl) (hle.e rfl) ⟨_,_,(hle.e rfl),rfl⟩ g8 (hle.d rfl)⟩) ?_
   exact trivial
  case hk15x=>rfl
  case hf15x=>rfl
  refine aops_yes rfl rfl rfl rfl q7 (ev_call_v (zbL hx9) rfl [] ai rfl rfl rfl (.inl rfl) rfl) (y_nt q7 ?_)
  refine s_pn q7 ?_
  refine s_mv ?_
  iterate 3 refine np q10 ?_
  refine s_py q10 ?_
  refine s_mv ?_
  iterate 3 refine aops_no rfl rfl rfl rfl rfl (by decide) ?_
  refine zaa rfl (zau rfl (by first|rfl|exact rfl) rfl rfl) (s_mv ?_)
  iterate 4 refine aops_no rfl rfl rfl rfl rfl (by decide) ?_
  refine zaa rfl (zau rfl (by first|rfl|exact rfl) rfl rfl) (aops_nil (aw_yes rfl (rfl) (aw_seq (aw_region (s_sa (aops_nil ?_))))))
  cases sj h
  exact aw_ret ⟨rfl,rv r1⟩
 rcases co h with ⟨q11,h⟩|⟨q11,h⟩
 ·refine aw_seq ?_
  apply aw_draw 40 [ad _,ad _,ad _,ad _,ad _,ad _,ad _,ad _,ad _,ad _,ad _,ad _,ad _,ad _,ad _,ad _,ad _,ad _,ad _,ad _,ad _,ad _,ad _,ad _,ad _,ad _,ad _,ad _,ad _,ad _,ad _,ad _,ad _,ad _,ad _,ad _,ad _,ad _,ad _,ad _] (by decide) rfl ?hk16x ?hf16x ?ho16x ?hr16x
  case ho16x =>
   refine o_fd 0 ?_
   refine o_ld 1 ?_
   refine obn 3 (fun S hle hfr=>.inl ⟨w0,ev_call_v (zbl hx1) (map_ev (.cons (hle.e rfl) (.nil))) [] (by repeat' (first|exact .nil|refine .cons ?_ ?_|refine .one ?_|refine .agg ?_|exact .mk rfl|exact .lend (hle.heap _ _ rfl) (by simp)|exact .le (.nil _) rfl|exact .le (.emp _) rfl|exact .le (.any _) rfl|fail)) rfl rfl rfl (.inl rfl) (hle.d rfl)⟩) ?_
   refine o_nt 7 ?_
   refine o_mv 15 ?_
   refine p_fd 31 q2 ?_
   refine p_ld 63 q2 ?_
   refine p_ln 127 q2 ?_
   refine p_cm 255 q2 ?_
   refine obn 511 (fun S hle hfr=>.inl ⟨w0,zaz (hle.e rfl) (by first|rfl|exact q2) (hle.e rfl) (hle.d rfl)⟩) ?_
   refine o_mv 1023 ?_
   refine p_fd 2047 q3 ?_
   refine p_ld 4095 q3 ?_
   refine p_ln 8191 q3 ?_
   refine p_cm 16383 q3 ?_
   refine obn 32767 (fun S hle hfr=>.inl ⟨w0,zaz (hle.e rfl) (by first|rfl|exact q3) (hle.e rfl) (hle.d rfl)⟩) ?_
   refine o_mv 65535 ?_
   refine p_fd 131071 q4 ?_
   refine p_ld 262143 q4 ?_
   refine p_ln 524287 q4 ?_
   refine p_fd 131071 q4 ?_
   refine p_ld 1179647 q4 ?_
   refine p_ln 3276799 q4 ?_
   refine p_cm 8388607 q4 ?_
   refine obn 16777215 (fun S hle hfr=>.inl ⟨w0,zaz (hle.e rfl) (by first|rfl|exact q4) (hle.e rfl) (hle.d rfl)⟩) ?_
   refine o_mv 33554431 ?_
   refine p_fd 67108863 q5 ?_
   refine p_ld 134217727 q5 ?_
   refine obn 268435455 (fun S hle hfr=>.inl ⟨wy hle q5,ev_call_v (zcS hx6) (map_ev (.cons (hle.e rfl) (.nil))) [] (by repeat' (first|exact .nil|refine .cons ?_ ?_|refine .one ?_|refine .agg ?_|exact .mk rfl|exact .lend (hle.heap _ _ rfl) (by simp)|exact .le (.nil _) rfl|exact .le (.emp _) rfl|exact .le (.any _) rfl|fail)) rfl rfl rfl (.inl rfl) (hle.d rfl)⟩) ?_
   refine p_nt 536870911 q5 ?_
   refine obn 1073741823 (fun S hle hfr=>.inl ⟨w0,zaz (hle.e rfl) (by first|rfl|exact q5) (hle.e rfl) (hle.d rfl)⟩) ?_
   refine o_mv 2147483647 ?_
   refine p_fd 4294967295 q7 ?_
   refine p_ld 8589934591 q7 ?_
   refine p_fd 4294967295 q7 ?_
   refine p_ld 21474836479 q7 ?_
   refine p_fd 4294967295 q7 ?_
   refine p_ld 73014444031 q7 ?_
   refine p_ln 210453397503 q7 ?_
   refine obn 536870911999 (fun S hle hfr=>.inl ⟨wy hle q7,st_cut_hi (f:=c_Int) (fun _=>rfl) (hle.e rfl) ⟨_,_,(hle.e rfl),rfl⟩ g8 (hle.d rfl)⟩) ?_
   exact trivial
  case hk16x=>rfl
  case hf16x=>rfl
  refine aops_yes rfl rfl rfl rfl q7 (ev_call_v (zbL hx9) rfl [] ai rfl rfl rfl (.inl rfl) rfl) (y_nt q7 ?_)
  refine s_pn q7 ?_
  refine s_mv ?_
  refine y_fd q10 ?_
  refine y_ld q10 ?_
  refine y_cm q10 ?_
  refine s_pn q10 ?_
  refine s_mv ?_
  iterate 3 refine np q11 ?_
  refine s_py q11 ?_
  refine s_mv ?_
  iterate 4 refine aops_no rfl rfl rfl rfl rfl (by decide) ?_
  refine zaa rfl (zau rfl (by first|rfl|exact rfl) rfl rfl) (aops_nil (aw_yes rfl (rfl) (aw_seq (aw_region (s_sa (aops_nil ?_))))))
  cases sj h
  exact aw_ret ⟨rfl,rv r1⟩
 rcases co h with ⟨q12,h⟩|⟨q12,h⟩
 ·refine aw_seq ?_
  apply aw_draw 40 [ad _,ad _,ad _,ad _,ad _,ad _,ad _,ad _,ad _,ad _,ad _,ad _,ad _,ad _,ad _,ad _,ad _,ad _,ad _,ad _,ad _,ad _,ad _,ad _,ad _,ad _,ad _,ad _,ad _,ad _,ad _,ad _,ad _,ad _,ad _,ad _,ad _,ad _,ad _,ad _] (by decide) rfl ?hk17x ?hf17x ?ho17x ?hr17x
  case ho17x =>
   refine o_fd 0 ?_
   refine o_ld 1 ?_
   refine obn 3 (fun S hle hfr=>.inl ⟨w0,ev_call_v (zbl hx1) (map_ev (.cons (hle.e rfl) (.nil))) [] (by repeat' (first|exact .nil|refine .cons ?_ ?_|refine .one ?_|refine .agg ?_|exact .mk rfl|exact .lend (hle.heap _ _ rfl) (by simp)|exact .le (.nil _) rfl|exact .le (.emp _) rfl|exact .le (.any _) rfl|fail)) rfl rfl rfl (.inl rfl) (hle.d rfl)⟩) ?_
   refine o_nt 7 ?_
   refine o_mv 15 ?_
   refine p_fd 31 q2 ?_
   refine p_ld 63 q2 ?_
   refine p_ln 127 q2 ?_
   refine p_cm 255 q2 ?_
   refine obn 511 (fun S hle hfr=>.inl ⟨w0,zaz (hle.e rfl) (by first|rfl|exact q2) (hle.e rfl) (hle.d rfl)⟩) ?_
   refine o_mv 1023 ?_
   refine p_fd 2047 q3 ?_
   refine p_ld 4095 q3 ?_
   refine p_ln 8191 q3 ?_
   refine p_cm 16383 q3 ?_
   refine obn 32767 (fun S hle hfr=>.inl ⟨w0,zaz (hle.e rfl) (by first|rfl|exact q3) (hle.e rfl) (hle.d rfl)⟩) ?_
   refine o_mv 65535 ?_
   refine p_fd 131071 q4 ?_
   refine p_ld 262143 q4 ?_
   refine p_ln 524287 q4 ?_
   refine p_fd 131071 q4 ?_
   refine p_ld 1179647 q4 ?_
   refine p_ln 3276799 q4 ?_
   refine p_cm 8388607 q4 ?_
   refine obn 16777215 (fun S hle hfr=>.inl ⟨w0,zaz (hle.e rfl) (by first|rfl|exact q4) (hle.e rfl) (hle.d rfl)⟩) ?_
   refine o_mv 33554431 ?_
   refine p_fd 67108863 q5 ?_
   refine p_ld 134217727 q5 ?_
   refine obn 268435455 (fun S hle hfr=>.inl ⟨wy hle q5,ev_call_v (zcS hx6) (map_ev (.cons (hle.e rfl) (.nil))) [] (by repeat' (first|exact .nil|refine .cons ?_ ?_|refine .one ?_|refine .agg ?_|exact .mk rfl|exact .lend (hle.heap _ _ rfl) (by simp)|exact .le (.nil _) rfl|exact .le (.emp _) rfl|exact .le (.any _) rfl|fail)) rfl rfl rfl (.inl rfl) (hle.d rfl)⟩) ?_
   refine p_nt 536870911 q5 ?_
   refine obn 1073741823 (fun S hle hfr=>.inl ⟨w0,zaz (hle.e rfl) (by first|rfl|exact q5) (hle.e rfl) (hle.d rfl)⟩) ?_
   refine o_mv 2147483647 ?_
   refine p_fd 4294967295 q7 ?_
   refine p_ld 8589934591 q7 ?_
   refine p_fd 4294967295 q7 ?_
   refine p_ld 21474836479 q7 ?_
   refine p_fd 4294967295 q7 ?_
   refine p_ld 73014444031 q7 ?_
   refine p_ln 210453397503 q7 ?_
   refine obn 536870911999 (fun S hle hfr=>.inl ⟨wy hle q7,st_cut_hi (f:=c_Int) (fun _=>rfl) (hle.e rfl) ⟨_,_,(hle.e rfl),rfl⟩ g8 (hle.d rfl)⟩) ?_
   exact trivial
  case hk17x=>rfl
  case hf17x=>rfl
  refine aops_yes rfl rfl rfl rfl q7 (ev_call_v (zbL hx9) rfl [] ai rfl rfl rfl (.inl rfl) rfl) (y_nt q7 ?_)
  refine s_pn q7 ?_
  refine s_mv ?_
  refine y_fd q10 ?_
  refine y_ld q10 ?_
  refine y_cm q10 ?_
  refine s_pn q10 ?_
  refine s_mv ?_
  refine y_fd q11 ?_
  refine y_ld q11 ?_
  refine y_cm q11 ?_
  refine s_pn q11 ?_
  refine s_mv ?_
  iterate 4 refine np q12 ?_
  refine s_py q12 ?_
  refine aops_nil (aw_yes rfl (rfl) (aw_seq (aw_region (s_sa (aops_nil ?_)))))
  cases sj h
  exact aw_ret ⟨rfl,rv r1⟩
 refine aw_seq ?_
 apply aw_draw 40 [ad _,ad _,ad _,ad _,ad _,ad _,ad _,ad _,ad _,ad _,ad _,ad _,ad _,ad _,ad _,ad _,ad _,ad _,ad _,ad _,ad _,ad _,ad _,ad _,ad _,ad _,ad _,ad _,ad _,ad _,ad _,ad _,ad _,ad _,ad _,ad _,ad _,ad _,ad _,ad _] (by decide) rfl ?hk18x ?hf18x ?ho18x ?hr18x
 case ho18x =>
  refine o_fd 0 ?_
  refine o_ld 1 ?_
  refine obn 3 (fun S hle hfr=>.inl ⟨w0,ev_call_v (zbl hx1) (map_ev (.cons (hle.e rfl) (.nil))) [] (by repeat' (first|exact .nil|refine .cons ?_ ?_|refine .one ?_|refine .agg ?_|exact .mk rfl|exact .lend (hle.heap _ _ rfl) (by simp)|exact .le (.nil _) rfl|exact .le (.emp _) rfl|exact .le (.any _) rfl|fail)) rfl rfl rfl (.inl rfl) (hle.d rfl)⟩) ?_
  refine o_nt 7 ?_
  refine o_mv 15 ?_
  refine p_fd 31 q2 ?_
  refine p_ld 63 q2 ?_
  refine p_ln 127 q2 ?_
  refine p_cm 255 q2 ?_
  refine obn 511 (fun S hle hfr=>.inl ⟨w0,zaz (hle.e rfl) (by first|rfl|exact q2) (hle.e rfl) (hle.d rfl)⟩) ?_
  refine o_mv 1023 ?_
  refine p_fd 2047 q3 ?_
  refine p_ld 4095 q3 ?_
  refine p_ln 8191 q3 ?_
  refine p_cm 16383 q3 ?_
  refine obn 32767 (fun S hle hfr=>.inl ⟨w0,zaz (hle.e rfl) (by first|rfl|exact q3) (hle.e rfl) (hle.d rfl)⟩) ?_
  refine o_mv 65535 ?_
  refine p_fd 131071 q4 ?_
  refine p_ld 262143 q4 ?_
  refine p_ln 524287 q4 ?_
  refine p_fd 131071 q4 ?_
  refine p_ld 1179647 q4 ?_
  refine p_ln 3276799 q4 ?_
  refine p_cm 8388607 q4 ?_
  refine obn 16777215 (fun S hle hfr=>.inl ⟨w0,zaz (hle.e rfl) (by first|rfl|exact q4) (hle.e rfl) (hle.d rfl)⟩) ?_
  refine o_mv 33554431 ?_
  refine p_fd 67108863 q5 ?_
  refine p_ld 134217727 q5 ?_
  refine obn 268435455 (fun S hle hfr=>.inl ⟨wy hle q5,ev_call_v (zcS hx6) (map_ev (.cons (hle.e rfl) (.nil))) [] (by repeat' (first|exact .nil|refine .cons ?_ ?_|refine .one ?_|refine .agg ?_|exact .mk rfl|exact .lend (hle.heap _ _ rfl) (by simp)|exact .le (.nil _) rfl|exact .le (.emp _) rfl|exact .le (.any _) rfl|fail)) rfl rfl rfl (.inl rfl) (hle.d rfl)⟩) ?_
  refine p_nt 536870911 q5 ?_
  refine obn 1073741823 (fun S hle hfr=>.inl ⟨w0,zaz (hle.e rfl) (by first|rfl|exact q5) (hle.e rfl) (hle.d rfl)⟩) ?_
  refine o_mv 2147483647 ?_
  refine p_fd 4294967295 q7 ?_
  refine p_ld 8589934591 q7 ?_
  refine p_fd 4294967295 q7 ?_
  refine p_ld 21474836479 q7 ?_
  refine p_fd 4294967295 q7 ?_
  refine p_ld 73014444031 q7 ?_
  refine p_ln 210453397503 q7 ?_
  refine obn 536870911999 (fun S hle hfr=>.inl ⟨wy hle q7,st_cut_hi (f:=c_Int) (fun _=>rfl) (hle.e rfl) ⟨_,_,(hle.e rfl),rfl⟩ g8 (hle.d rfl)⟩) ?_
  exact trivial
 case hk18x=>rfl
 case hf18x=>rfl
 refine aops_yes rfl rfl rfl rfl q7 (ev_call_v (zbL hx9) rfl [] ai rfl rfl rfl (.inl rfl) rfl) (y_nt q7 ?_)
 refine s_pn q7 ?_
 refine s_mv ?_
 refine y_fd q10 ?_
 refine y_ld q10 ?_
 refine y_cm q10 ?_
 refine s_pn q10 ?_
 refine s_mv ?_
 refine y_fd q11 ?_
 refine y_ld q11 ?_
 refine y_cm q11 ?_
 refine s_pn q11 ?_
 refine s_mv ?_
 refine y_fd q12 ?_
 refine y_ld q12 ?_
 refine y_ln q12 ?_
 refine y_cm q12 ?_
 refine s_pn q12 (aops_nil ?_)
 refine aw_if h (fun c13 h=>?_) (fun c13 h=>?_)
 ·refine aw_seq (aw_region (s_sa (aops_nil ?_)))
  cases sj h
  exact aw_ret ⟨rfl,rv r1⟩
 refine aw_skip ?_
 obtain ⟨o14,j14,h⟩:=bind_s h
 refine aw_cut (ε:=Unit) (fun x=>(⟨84,[],[],[]⟩:ASt)) (fun x=>Sum.inl x=o14) ?_ ?_
 ·intro x14_0 hI14
  subst hI14
  replace h:=onS_l h
  refine aw_seq (aw_region (s_sa (aops_nil ?_)))
  cases sj h
  exact aw_ret ⟨rfl,rv r1⟩
 refine aw_seq (aw_region (s_sa (aops_nil (aw_block ?_))))
 obtain ⟨o15,ho15,j14⟩:=bind_s j14
 refine aw_loop (ι:={p:Nat×Nat // zaR k a0 a1 a2 p.1 p.2=some o15}) (fun p=>(⟨84,[],[(3,.one (.ptr 0 0)),(4,.one (.ptr 1 0)),(5,.one (.ptr 2 0)),(7,vI ((p.1.2:Nat):Int))],[(0,some (.box [CV.ls zab a0.Types])),(1,some (.box (zab a1))),(2,some (.box (zad a2)))]⟩:ASt)) (fun p=>p.1.1) ⟨(k,0),ho15⟩ wk ?_
 intro p15
 obtain ⟨⟨n15,s15_0⟩,l15⟩:=p15
 replace l15:zaR k a0 a1 a2 n15 s15_0=some o15:=l15
 rcases n15 with _|n15
 ·exact absurd (show none=some o15 from l15) nofun
 rw [zaR] at l15
 refine aw_seq (aw_seq (aw_region (s_mv ?_)))
 refine s_fd ?_
 refine s_ld ?_
 refine s_ln ?_
 refine s_cm (aops_nil ?_)
 refine aw_if l15 (fun c16 l15=>?_) (fun c16 l15=>?_)
 ·refine aw_skip (aw_seq (aw_block ?_))
  obtain ⟨g17,l15⟩:=ifp_s l15
  obtain ⟨x18,hx18,l15⟩:=bind_s l15
  refine aw_seq ?_
  apply aw_draw 8 [ad _,ad _,ad _,ad _,ad _,ad _,ad _,ad _] (by decide) rfl ?hk30x ?hf30x ?ho30x ?hr30x
  case ho30x =>
   refine obn 0 (fun S hle hfr=>.inl ⟨w0,ev_loads (ds:=[_]) (hle.e rfl) (hle.heap _ _ rfl) rfl rfl (hle.d rfl)⟩) ?_
   refine obn 0 (fun S hle hfr=>.inl ⟨w0,ev_loads (ds:=[_,_,_]) (hle.e rfl) (hle.heap _ _ rfl) rfl rfl (hle.d rfl)⟩) ?_
   refine obn 0 (fun S hle hfr=>.inl ⟨w0,ev_loads (ds:=[_,_,_,_,_]) (hle.e rfl) (hle.heap _ _ rfl) rfl rfl (hle.d rfl)⟩) ?_
   refine o_fd 0 ?_
   refine o_ld 8 ?_
   refine o_mv 0 ?_
   refine obn 56 (fun S hle hfr=>.inl ⟨w0,zaf (hle.e rfl) (hle.e rfl) rfl g17 rfl (hle.d rfl)⟩) ?_
   refine obn 120 (fun S hle hfr=>.inl ⟨w0,zaI (ds:=[_,_,_,_,_,_,_,_]) (hle.e rfl) rfl rfl (hle.d rfl)⟩) ?_
   exact trivial
  case hk30x=>rfl
  case hf30x=>rfl
  refine zaa rfl (ev_call_v (zgh hx18) rfl [] ai rfl rfl rfl (.inl rfl) rfl) (s_nt (aops_nil ?_))
  refine aw_if l15 (fun c19 l15=>?_) (fun c19 l15=>?_)
  ·refine aw_seq (aw_region (s_sa (aops_nil ?_)))
   cases sj l15
   replace j14:=onS_r j14
   cases sj j14
   replace h:=onS_r h
   cases sj h
   exact aw_ret ⟨rfl,rv r1⟩
  refine aw_skip (aw_region (s_mv ?_))
  obtain ⟨g20,l15⟩:=ifp_s l15
  refine zaa rfl (ev_add rfl rfl rfl (nat_add g20)) (s_sa (aops_nil ?_))
  exact ⟨⟨(n15,(s15_0+1)),l15⟩,Nat.lt_succ_self _,wk⟩
 refine aw_exit ?_
 have e15:=sj l15
 subst e15
 replace j14:=onS_l j14
 show ∃_x:Unit,_=_∧Weak _ _
 exact ⟨(),sj j14,wk⟩
set_option maxHeartbeats 2000000 in
theorem zgo {k:Nat} {a0:Code} {r:Bool} (h:zdA k a0=some r):FnC Tryz.prog 18 [.agg [CV.ls zab a0.Types]] [] (Det (vB r) []):=by
 unfold zdA at h
 refine fn_intro' 158 Tryz.func18 rfl rfl rfl (aw_seq (aw_region (zaa rfl (st_box 0 rfl rfl rfl rfl) (s_sa ?_))))
 refine aops_nil (aw_seq (aw_seq (aw_region (s_fd ?_))))
 refine s_ld ?_
 refine s_ln ?_
 refine s_cm (aops_nil ?_)
 refine aw_if h (fun c1 h=>?_) (fun c1 h=>?_)
 ·refine aw_seq (aw_region (s_sa (aops_nil ?_)))
  cases sj h
  exact aw_ret ⟨rfl,rv r1⟩
 refine aw_skip (aw_seq (aw_region (s_sa (aops_nil ?_))))
 obtain ⟨o2,j2,h⟩:=bind_s h
 refine aw_cut (ε:=Unit) (fun x=>(⟨158,[],[],[]⟩:ASt)) (fun x=>Sum.inl x=o2) ?_ ?_
 ·intro x2_0 hI2
  subst hI2
  replace h:=onS_l h
  refine aw_seq (aw_region (s_sa (aops_nil ?_)))
  cases sj h
  exact aw_ret ⟨rfl,rv r1⟩
 refine aw_seq (aw_region (s_sa (aops_nil (aw_block ?_))))
 obtain ⟨o3,ho3,j2⟩:=bind_s j2
 refine aw_loop (ι:={p:Nat×Nat×Nat // zbV k a0 p.1 p.2.1 p.2.2=some o3}) (fun p=>(⟨158,[],[(1,.one (.ptr 0 0)),(3,vI ((p.1.2.1:Nat):Int)),(4,vI ((p.1.2.2:Nat):Int))],[(0,some (.box [CV.ls zab a0.Types]))]⟩:ASt)) (fun p=>p.1.1) ⟨(k,0,0),ho3⟩ wk ?_
 intro p3
 obtain ⟨⟨n3,s3_0,s3_1⟩,l3⟩:=p3
 replace l3:zbV k a0 n3 s3_0 s3_1=some o3:=l3
 rcases n3 with _|n3
 ·exact absurd (show none=some o3 from l3) nofun
 rw [zbV] at l3
 refine aw_seq (aw_seq (aw_region (s_mv ?_)))
 refine s_fd ?_
 refine s_ld ?_
 refine s_ln ?_
 refine s_cm (aops_nil ?_)
 refine aw_if l3 (fun c4 l3=>?_) (fun c4 l3=>?_)
 ·refine aw_skip ?_
  obtain ⟨o5,j5,l3⟩:=bind_s l3
  refine aw_cut (ε:=Nat) (fun x=>(⟨158,[],[(1,.one (.ptr 0 0)),(3,vI ((x:Nat):Int)),(4,vI ((s3_1:Nat):Int))],[(0,some (.box [CV.ls zab a0.Types]))]⟩:ASt)) (fun x=>Sum.inl x=o5) ?_ ?_
  ·intro x5_0 hI5
   subst hI5
   replace l3:=onS_l l3
   refine aw_region (s_mv ?_)
   obtain ⟨g6,l3⟩:=ifp_s l3
   refine zaa rfl (ev_add rfl rfl rfl (nat_add g6)) (s_sa (aops_nil ?_))
   exact ⟨⟨(n3,x5_0,(s3_1+1)),l3⟩,Nat.lt_succ_self _,wk⟩
  refine aw_block (aw_seq (aw_region (s_fd ?_)))
  refine s_ld ?_
  refine s_mv ?_
  obtain ⟨g7,j5⟩:=ifp_s j5
  refine zaa rfl (zaf rfl rfl rfl g7 rfl rfl) (zaa rfl (zaI (ds:=[_,_,_]) rfl rfl rfl rfl) ?_)
  refine zaa rfl (st_alloc (cs:=[.val (Sv []),.val (.slice none 0 0),.val (.slice none 0 0)]) 1 rfl rfl rfl rfl rfl) (s_st [_,_,_] ?_)
  refine aops_nil (aw_seq (aw_seq (aw_region (s_ls [_] ?_))))
  refine s_fd ?_
  refine s_ld ?_
  obtain ⟨x8,hx8,j5⟩:=bind_s j5
  refine zaa rfl (ev_call_v (zfD hx8) rfl [] ai rfl rfl rfl (.inl rfl) rfl) (s_mt ?_)
  iterate 2 refine s_ex ?_
  iterate 2 refine s_sa ?_
  refine aops_nil (aw_seq (aw_region ?_))
  iterate 2 refine s_mv ?_
  refine s_cm ?_
  refine s_mv ?_
  obtain ⟨o9,j9,j5⟩:=bind_s j5
  refine aops_cutE 5 o9 (fun x9=>(⟨158,[],[(1,.one (.ptr 0 0)),(3,vI ((s3_0:Nat):Int)),(4,vI ((s3_1:Nat):Int)),(5,.one (.ptr 1 0)),(45,vB x9)],[(0,some (.box [CV.ls zab a0.Types])),(1,some (.box (zab (a0.Types.getD s3_1 default))))]⟩:ASt)) ?_ ?_
  ·refine s_mv ?_
   refine bo 5 (o9||(decide (((((a0.Types.getD s3_1 default).Fields).length:Nat):Int)>8))) ?_
   refine s_mv ?_
   refine bo 5 ((o9||(decide (((((a0.Types.getD s3_1 default).Fields).length:Nat):Int)>8)))||(decide (((((a0.Types.getD s3_1 default).Methods).length:Nat):Int)>16))) ?_
   refine aops_nil ?_
   refine aw_if j5 (fun c12 j5=>?_) (fun c12 j5=>?_)
   ·refine aw_seq (aw_region (s_sa (aops_nil ?_)))
    cases sj j5
    replace l3:=onS_r l3
    cases sj l3
    replace j2:=onS_r j2
    cases sj j2
    replace h:=onS_r h
    cases sj h
    exact aw_ret ⟨rfl,rv r1⟩
   refine aw_skip ?_
   obtain ⟨o13,j13,j5⟩:=bind_s j5
   refine aw_cut (ε:=Unit) (fun x=>(⟨158,[],[(1,.one (.ptr 0 0)),(3,vI ((s3_0:Nat):Int)),(4,vI ((s3_1:Nat):Int)),(5,.one (.ptr 1 0))],[(0,some (.box [CV.ls zab a0.Types])),(1,some (.box (zab (a0.Types.getD s3_1 default))))]⟩:ASt)) (fun x=>Sum.inl x=o13) ?_ ?_
   ·intro x13_0 hI13
    subst hI13
    replace j5:=onS_l j5
    refine aw_seq (aw_region (s_sa (aops_nil (aw_block ?_))))
    obtain ⟨o14,ho14,j5⟩:=bind_s j5
    refine aw_loop (ι:={p:Nat×Nat×Nat // zbT k a0 s3_1 p.1 p.2.1 p.2.2=some o14}) (fun p=>(⟨158,[],[(1,.one (.ptr 0 0)),(3,vI ((p.1.2.1:Nat):Int)),(4,vI ((s3_1:Nat):Int)),(5,.one (.ptr 1 0)),(11,vI ((p.1.2.2:Nat):Int))],[(0,some (.box [CV.ls zab a0.Types])),(1,some (.box (zab (a0.Types.getD s3_1 default))))]⟩:ASt)) (fun p=>p.1.1) ⟨(k,s3_0,0),ho14⟩ wk ?_
    intro p14
    obtain ⟨⟨n14,s14_0,s14_1⟩,l14⟩:=p14
    replace l14:zbT k a0 s3_1 n14 s14_0 s14_1=some o14:=l14
    rcases n14 with _|n14
    ·exact absurd (show none=some o14 from l14) nofun
    rw [zbT] at l14
    refine aw_seq (aw_seq (aw_region (s_mv ?_)))
    refine s_fd ?_
    refine s_ld ?_
    refine s_ln ?_
    refine s_cm (aops_nil ?_)
    refine aw_if l14 (fun c15 l14=>?_) (fun c15 l14=>?_)
    ·refine aw_skip (aw_seq (aw_block (aw_seq (aw_region (s_mv ?_)))))
     refine s_fd ?_
     refine s_ld ?_
     refine s_mv ?_
     obtain ⟨g16,l14⟩:=ifp_s l14
     refine zaa rfl (zaf rfl rfl rfl g16 rfl rfl) (zaa rfl (zaM rfl rfl rfl) (zaa rfl (zas rfl rfl rfl) (s_ln ?_)))
     refine zaa rfl (ev_min rfl rfl rfl (nat_min _ _)) ?_
     obtain ⟨g17,l14⟩:=ifp_s l14
     refine zaa rfl (ev_add rfl rfl rfl (nat_add g17)) (s_sa (aops_nil ?_))
     obtain ⟨g18,l14⟩:=ifp_s l14
     obtain ⟨x19,hx19,l14⟩:=bind_s l14
     refine aw_seq ?_
     apply aw_draw 12 [ad _,ad _,ad _,ad _,ad _,ad _,ad _,ad _,ad _,ad _,ad _,ad _] (by decide) rfl ?hk837x ?hf837x ?ho837x ?hr837x
     case ho837x =>
      refine obn 0 (fun S hle hfr=>.inl ⟨w0,ev_loads (ds:=[_,_,_]) (hle.e rfl) (hle.heap _ _ rfl) rfl rfl (hle.d rfl)⟩) ?_
      refine o_fd 0 ?_
      refine o_ld 2 ?_
      refine o_mv 0 ?_
      refine obn 14 (fun S hle hfr=>.inl ⟨w0,zaf (hle.e rfl) (hle.e rfl) rfl g18 rfl (hle.d rfl)⟩) ?_
      refine o_fi 30 ?_
      refine o_li 62 ?_
      refine obn 127 (fun S hle hfr=>.inl ⟨w0,ev_call_v (zfo hx19) (map_ev (.cons (hle.e rfl) (.cons (hle.e rfl) (.nil)))) [] (by repeat' (first|exact .nil|refine .cons ?_ ?_|refine .one ?_|refine .agg ?_|exact .mk rfl|exact .lend (hle.heap _ _ rfl) (by simp)|exact .le (.nil _) rfl|exact .le (.emp _) rfl|exact .le (.any _) rfl|fail)) rfl rfl rfl (.inl rfl) (hle.d rfl)⟩) ?_
      refine o_mt 255 ?_
      refine o_ex 511 ?_
      refine o_ex 511 ?_
      refine o_sa 1023 ?_
      exact trivial
     case hk837x=>rfl
     case hf837x=>rfl
     refine s_sa (aops_nil ?_)
     rcases co l14 with ⟨q20,l14⟩|⟨q20,l14⟩
     ·refine aw_seq ?_
      apply aw_draw 15 [ad _,ad _,ad _,ad _,ad _,ad _,ad _,ad _,ad _,ad _,ad _,ad _,ad _,ad _,ad _] (by decide) rfl ?hk838x ?hf838x ?ho838x ?hr838x
      case ho838x =>
       refine o_mv 0 ?_
       refine o_mv 0 ?_
       refine o_cm 3 ?_
       refine o_mv 7 ?_
       refine on 15 q20 ?_
       refine on 31 q20 ?_
       refine obn 63 (fun S hle hfr=>.inl ⟨w0,zau (hle.e rfl) (by first|rfl|exact q20) (hle.e rfl) (hle.d rfl)⟩) ?_
       refine o_mv 127 ?_
       iterate 3 refine ob [7,6,3,5,2,4,0,1] (fun S hle hfr=>.inr ⟨.inr (.inl ⟨_,_,_,_,rfl,rfl,(hle.ev (x:=.tmp _) rfl (by nofun)),(by rw [hle.nt];rfl),(by first|rfl|(rw [rfl];rfl))⟩),rfl,hle.d rfl⟩) ?_
       refine on 1279 trivial ?_
       refine on 255 trivial ?_
       refine on 7423 trivial ?_
       refine on 15615 trivial ?_
       exact trivial
      case hk838x=>rfl
      case hf838x=>rfl
      refine aops_no rfl rfl rfl rfl rfl (by decide) (aops_no rfl rfl rfl rfl rfl (by decide) (zaa rfl (zau rfl (by first|rfl|exact rfl) rfl rfl) ?_))
      refine aops_nil (aw_yes rfl (rfl) (aw_seq (aw_region (s_sa (aops_nil ?_)))))
      cases sj l14
      replace j5:=onS_r j5
      cases sj j5
      replace l3:=onS_r l3
      cases sj l3
      replace j2:=onS_r j2
      cases sj j2
      replace h:=onS_r h
      cases sj h
      exact aw_ret ⟨rfl,rv r1⟩
     rcases co l14 with ⟨q21,l14⟩|⟨q21,l14⟩
     ·refine aw_seq ?_
      apply aw_draw 15 [ad _,ad _,ad _,ad _,ad _,ad _,ad _,ad _,ad _,ad _,ad _,ad _,ad _,ad _,ad _] (by decide) rfl ?hk839x ?hf839x ?ho839x ?hr839x
      case ho839x =>
       refine o_mv 0 ?_
       refine o_mv 0 ?_
       refine o_cm 3 ?_
       refine o_mv 7 ?_
       refine p_mv 15 q20 ?_
       refine p_cm 31 q20 ?_
       refine obn 63 (fun S hle hfr=>.inl ⟨w0,zaz (hle.e rfl) (by first|rfl|exact q20) (hle.e rfl) (hle.d rfl)⟩) ?_
       refine o_mv 127 ?_
       iterate 3 refine ob [7,6,3,5,2,4,0,1] (fun S hle hfr=>nw hle q21) ?_
       refine on 1279 q21 ?_
       refine on 255 q21 ?_
       refine on 7423 q21 ?_
       refine on 15615 q21 ?_
       exact trivial
      case hk839x=>rfl
      case hf839x=>rfl
      iterate 2 refine np q21 ?_
      refine s_py q21 ?_
      refine aops_nil (aw_yes rfl (rfl) (aw_seq (aw_region (s_sa (aops_nil ?_)))))
      cases sj l14
      replace j5:=onS_r j5
      cases sj j5
      replace l3:=onS_r l3
      cases sj l3
      replace j2:=onS_r j2
      cases sj j2
      replace h:=onS_r h
      cases sj h
      exact aw_ret ⟨rfl,rv r1⟩
     obtain ⟨g22,l14⟩:=ifp_s l14
     obtain ⟨x23,hx23,l14⟩:=bind_s l14
     refine aw_seq ?_
     apply aw_draw 15 [ad _,ad _,ad _,ad _,ad _,ad _,ad _,ad _,ad _,ad _,ad _,ad _,ad _,ad _,ad _] (by decide) rfl ?hk840x ?hf840x ?ho840x ?hr840x
     case ho840x =>
      refine o_mv 0 ?_
      refine o_mv 0 ?_
      refine o_cm 3 ?_
      refine o_mv 7 ?_
      refine p_mv 15 q20 ?_
      refine p_cm 31 q20 ?_
      refine obn 63 (fun S hle hfr=>.inl ⟨w0,zaz (hle.e rfl) (by first|rfl|exact q20) (hle.e rfl) (hle.d rfl)⟩) ?_
      refine o_mv 127 ?_
      refine obn 255 (fun S hle hfr=>.inl ⟨wy hle q21,ev_loads (ds:=[_]) (hle.e rfl) (hle.heap _ _ rfl) rfl rfl (hle.d rfl)⟩) ?_
      refine obn 255 (fun S hle hfr=>.inl ⟨wy hle q21,ev_loads (ds:=[_,_,_]) (hle.e rfl) (hle.heap _ _ rfl) rfl rfl (hle.d rfl)⟩) ?_
      refine p_fd 255 q21 ?_
      refine p_ld 1279 q21 ?_
      refine p_mv 255 q21 ?_
      refine obn 7423 (fun S hle hfr=>.inl ⟨wy hle q21,zaf (hle.e rfl) (hle.e rfl) rfl g22 rfl (hle.d rfl)⟩) ?_
      refine obn 15615 (fun S hle hfr=>.inl ⟨wy hle q21,zaI (ds:=[_,_,_,_,_]) (hle.e rfl) rfl rfl (hle.d rfl)⟩) ?_
      exact trivial
     case hk840x=>rfl
     case hf840x=>rfl
     refine aops_yes rfl rfl rfl rfl q21 (ev_call_v (zfV hx23) rfl [] ai rfl rfl rfl (.inl rfl) rfl) (y_nt q21 ?_)
     refine s_pn q21 (aops_nil ?_)
     refine aw_if l14 (fun c24 l14=>?_) (fun c24 l14=>?_)
     ·refine aw_seq (aw_region (s_sa (aops_nil ?_)))
      cases sj l14
      replace j5:=onS_r j5
      cases sj j5
      replace l3:=onS_r l3
      cases sj l3
      replace j2:=onS_r j2
      cases sj j2
      replace h:=onS_r h
      cases sj h
      exact aw_ret ⟨rfl,rv r1⟩
     refine aw_skip (aw_region (s_mv ?_))
     obtain ⟨g25,l14⟩:=ifp_s l14
     refine zaa rfl (ev_add rfl rfl rfl (nat_add g25)) (s_sa (aops_nil ?_))
     exact ⟨⟨(n14,(s14_0+(min (((((a0.Types.getD s3_1 default).Methods).getD s14_1 default).Code).length) 3001)),(s14_1+1)),l14⟩,Nat.lt_succ_self _,wk⟩
    refine aw_exit ?_
    have e14:=sj l14
    subst e14
    replace j5:=onS_l j5
    show ∃_x:Nat,_=_∧Weak _ _
    exact ⟨s14_0,sj j5,wk⟩
   refine aw_seq (aw_region (s_sa (aops_nil (aw_block ?_))))
   obtain ⟨o26,ho26,j13⟩:=bind_s j13
   refine aw_loop (ι:={p:Nat×Nat // zbW k a0 s3_1 p.1 p.2=some o26}) (fun p=>(⟨158,[],[(1,.one (.ptr 0 0)),(3,vI ((s3_0:Nat):Int)),(4,vI ((s3_1:Nat):Int)),(5,.one (.ptr 1 0)),(8,vI ((p.1.2:Nat):Int))],[(0,some (.box [CV.ls zab a0.Types])),(1,some (.box (zab (a0.Types.getD s3_1 default))))]⟩:ASt)) (fun p=>p.1.1) ⟨(k,0),ho26⟩ wk ?_
   intro p26
   obtain ⟨⟨n26,s26_0⟩,l26⟩:=p26
   replace l26:zbW k a0 s3_1 n26 s26_0=some o26:=l26
   rcases n26 with _|n26
   ·exact absurd (show none=some o26 from l26) nofun
   rw [zbW] at l26
   refine aw_seq (aw_seq (aw_region (s_mv ?_)))
   refine s_fd ?_
   refine s_ld ?_
   refine s_ln ?_
   refine s_cm (aops_nil ?_)
   refine aw_if l26 (fun c27 l26=>?_) (fun c27 l26=>?_)
   ·refine aw_skip ?_
    obtain ⟨o28,j28,l26⟩:=bind_s l26
    refine aw_cut (ε:=Unit) (fun x=>(⟨158,[],[(1,.one (.ptr 0 0)),(3,vI ((s3_0:Nat):Int)),(4,vI ((s3_1:Nat):Int)),(5,.one (.ptr 1 0)),(8,vI ((s26_0:Nat):Int))],[(0,some (.box [CV.ls zab a0.Types])),(1,some (.box (zab (a0.Types.getD s3_1 default))))]⟩:ASt)) (fun x=>Sum.inl x=o28) ?_ ?_
    ·intro x28_0 hI28
     subst hI28
     replace l26:=onS_l l26
     refine aw_region (s_mv ?_)
     obtain ⟨g29,l26⟩:=ifp_s l26
     refine zaa rfl (ev_add rfl rfl rfl (nat_add g29)) (s_sa (aops_nil ?_))
     exact ⟨⟨(n26,(s26_0+1)),l26⟩,Nat.lt_succ_self _,wk⟩
    refine aw_block (aw_seq (aw_region (s_fd ?_)))
    refine s_ld ?_
    refine s_mv ?_
    obtain ⟨g30,j28⟩:=ifp_s j28
    refine zaa rfl (zaf rfl rfl rfl g30 rfl rfl) (zaa rfl (zaI (ds:=[_,_,_,_,_,_,_]) rfl rfl rfl rfl) ?_)
    refine zaa rfl (st_alloc (cs:=[.val (Sv []),cI 0,cI 0,cI 0,.val (Sv []),.val (.slice none 0 0),.val (.slice none 0 0)]) 2 rfl rfl rfl rfl rfl) (s_st [_,_,_,_,_,_,_] ?_)
    refine aops_nil (aw_seq (aw_seq (aw_region (s_fd ?_))))
    refine s_ld ?_
    obtain ⟨x31,hx31,j28⟩:=bind_s j28
    refine zaa rfl (ev_call_v (zbl hx31) rfl [] ai rfl rfl rfl (.inl rfl) rfl) (s_nt ?_)
    refine s_mv ?_
    refine bo 4 ((!x31)||(decide (((((a0.Types.getD s3_1 default).Fields).getD s26_0 default).Kind)<1))) ?_
    refine s_mv ?_
    refine bo 4 (((!x31)||(decide (((((a0.Types.getD s3_1 default).Fields).getD s26_0 default).Kind)<1)))||(decide (((((a0.Types.getD s3_1 default).Fields).getD s26_0 default).Kind)>5))) ?_
    refine s_mv ?_
    refine bo 7 ((((!x31)||(decide (((((a0.Types.getD s3_1 default).Fields).getD s26_0 default).Kind)<1)))||(decide (((((a0.Types.getD s3_1 default).Fields).getD s26_0 default).Kind)>5)))||((((((a0.Types.getD s3_1 default).Fields).getD s26_0 default).Init).Kind) != ((((a0.Types.getD s3_1 default).Fields).getD s26_0 default).Kind))) ?_
    refine s_mv ?_
    obtain ⟨o35,j35,j28⟩:=bind_s j28
    refine aops_cutE 5 o35 (fun x35=>(⟨158,[],[(1,.one (.ptr 0 0)),(3,vI ((s3_0:Nat):Int)),(4,vI ((s3_1:Nat):Int)),(5,.one (.ptr 1 0)),(8,vI ((s26_0:Nat):Int)),(9,.one (.ptr 2 0)),(97,vB x35)],[(0,some (.box [CV.ls zab a0.Types])),(1,some (.box (zab (a0.Types.getD s3_1 default)))),(2,some (.box (c_Field (((a0.Types.getD s3_1 default).Fields).getD s26_0 default))))]⟩:ASt)) ?_ ?_
    ·refine aops_nil ?_
     refine aw_if j28 (fun c36 j28=>?_) (fun c36 j28=>?_)
     ·refine aw_seq (aw_region (s_sa (aops_nil ?_)))
      cases sj j28
      replace l26:=onS_r l26
      cases sj l26
      replace j13:=onS_r j13
      cases sj j13
      replace j5:=onS_r j5
      cases sj j5
      replace l3:=onS_r l3
      cases sj l3
      replace j2:=onS_r j2
      cases sj j2
      replace h:=onS_r h
      cases sj h
      exact aw_ret ⟨rfl,rv r1⟩
     refine aw_skip (aw_seq (aw_region (s_sa (aops_nil (aw_block ?_)))))
     obtain ⟨o37,ho37,j28⟩:=bind_s j28
     refine aw_loop (ι:={p:Nat×Nat // zbd k a0 s3_1 s26_0 p.1 p.2=some o37}) (fun p=>(⟨158,[],[(1,.one (.ptr 0 0)),(3,vI ((s3_0:Nat):Int)),(4,vI ((s3_1:Nat):Int)),(5,.one (.ptr 1 0)),(8,vI ((s26_0:Nat):Int)),(9,.one (.ptr 2 0)),(10,vI ((p.1.2:Nat):Int))],[(0,some (.box [CV.ls zab a0.Types])),(1,some (.box (zab (a0.Types.getD s3_1 default)))),(2,some (.box (c_Field (((a0.Types.getD s3_1 default).Fields).getD s26_0 default))))]⟩:ASt)) (fun p=>p.1.1) ⟨(k,0),ho37⟩ wk ?_
     intro p37
     obtain ⟨⟨n37,s37_0⟩,l37⟩:=p37
     replace l37:zbd k a0 s3_1 s26_0 n37 s37_0=some o37:=l37
     rcases n37 with _|n37
     ·exact absurd (show none=some o37 from l37) nofun
     rw [zbd] at l37
     refine aw_seq (aw_seq (aw_region ?_))
     iterate 2 refine s_mv ?_
     refine s_cm (aops_nil ?_)
     refine aw_if l37 (fun c38 l37=>?_) (fun c38 l37=>?_)
     ·refine aw_skip (aw_seq (aw_block ?_))
      obtain ⟨g39,l37⟩:=ifp_s l37
      refine aw_seq ?_
      apply aw_draw 8 [ad _,ad _,ad _,ad _,ad _,ad _,ad _,ad _] (by decide) rfl ?hk864x ?hf864x ?ho864x ?hr864x
      case ho864x =>
       refine o_fd 0 ?_
       refine o_ld 1 ?_
       refine o_mv 0 ?_
       refine obn 7 (fun S hle hfr=>.inl ⟨w0,zaf (hle.e rfl) (hle.e rfl) rfl g39 rfl (hle.d rfl)⟩) ?_
       refine o_fi 15 ?_
       refine o_li 31 ?_
       refine o_fd 0 ?_
       refine o_ld 64 ?_
       exact trivial
      case hk864x=>rfl
      case hf864x=>rfl
      refine zaa rfl (st_str_eq rfl rfl rfl) (aops_nil ?_)
      refine aw_if l37 (fun c40 l37=>?_) (fun c40 l37=>?_)
      ·refine aw_seq (aw_region (s_sa (aops_nil ?_)))
       cases sj l37
       replace j28:=onS_r j28
       cases sj j28
       replace l26:=onS_r l26
       cases sj l26
       replace j13:=onS_r j13
       cases sj j13
       replace j5:=onS_r j5
       cases sj j5
       replace l3:=onS_r l3
       cases sj l3
       replace j2:=onS_r j2
       cases sj j2
       replace h:=onS_r h
       cases sj h
       exact aw_ret ⟨rfl,rv r1⟩
      refine aw_skip (aw_region (s_mv ?_))
      obtain ⟨g41,l37⟩:=ifp_s l37
      refine zaa rfl (ev_add rfl rfl rfl (nat_add g41)) (s_sa (aops_nil ?_))
      exact ⟨⟨(n37,(s37_0+1)),l37⟩,Nat.lt_succ_self _,wk⟩
     refine aw_exit ?_
     have e37:=sj l37
     subst e37
     replace j28:=onS_l j28
     show ∃_x:Unit,_=_∧Weak _ _
     exact ⟨(),sj j28,wk⟩
    rcases co j35 with ⟨q35,j35⟩|⟨q35,j35⟩
    ·iterate 4 refine np q35 ?_
     refine s_py q35 (aops_nil ?_)
     exact jx j35 wk
    refine y_fd q35 ?_
    refine aops_yes rfl rfl rfl rfl q35 (ev_loads (ds:=[_,_,_,_,_]) rfl rfl rfl rfl rfl) ?_
    obtain ⟨x42,hx42,j35⟩:=bind_s j35
    refine aops_yes rfl rfl rfl rfl q35 (ev_call_v (zel hx42) rfl [] ai rfl rfl rfl (.inl rfl) rfl) (y_nt q35 ?_)
    refine s_pn q35 (aops_nil ?_)
    exact jx j35 wk
   refine aw_exit ?_
   have e26:=sj l26
   subst e26
   replace j13:=onS_l j13
   show ∃_x:Unit,_=_∧Weak _ _
   exact ⟨(),sj j13,wk⟩
  rcases co j9 with ⟨q9,j9⟩|⟨q9,j9⟩
  ·iterate 4 refine np q9 ?_
   refine s_py q9 (aops_nil ?_)
   exact jx j9 wk
  refine y_fd q9 ?_
  refine y_ld q9 ?_
  obtain ⟨x43,hx43,j9⟩:=bind_s j9
  refine aops_yes rfl rfl rfl rfl q9 (ev_call_v (zbl hx43) rfl [] ai rfl rfl rfl (.inl rfl) rfl) (y_nt q9 ?_)
  refine s_pn q9 (aops_nil ?_)
  exact jx j9 wk
 refine aw_exit ?_
 have e3:=sj l3
 subst e3
 replace j2:=onS_l j2
 show ∃_x:Unit,_=_∧Weak _ _
 exact ⟨(),sj j2,wk⟩
end Md
end Go.Proofs.YtclffekkjfhpdaaGreat

