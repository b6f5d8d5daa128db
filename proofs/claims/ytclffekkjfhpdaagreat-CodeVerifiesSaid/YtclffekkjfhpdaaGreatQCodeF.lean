import Derived.Test.YtclffekkjfhpdaaGreatQAbsSw
import Derived.Test.YtclffekkjfhpdaaGreatQMo
import Derived.Test.YtclffekkjfhpdaaGreatQTy
import Derived.Test.YtclffekkjfhpdaaGreatQAbsS
import Derived.Test.YtclffekkjfhpdaaGreatQAbsG
import Derived.Test.YtclffekkjfhpdaaGreatQCodeG
import Derived.Test.YtclffekkjfhpdaaGreatQWa
namespace Go.Proofs.YtclffekkjfhpdaaGreat
open Go.ChangeShapes Go.WideShapes Go.RowKit
open Abs
set_option linter.unusedVariables false
set_option linter.unusedSimpArgs false
set_option maxRecDepth 10000
namespace Md
def zaP (x:Bytecodeeffect):List CV:=[CV.ls c_Int x.takes,CV.ls c_Int x.puts]
set_option maxHeartbeats 2000000 in
theorem zao {k:Nat} {a0:List Int} {a1:List Int} {r:(List Bytecodeeffect)} (h:zaw k a0 a1=some r):FnC Tryz.prog 103 [.one (CV.ls c_Int a0),.one (CV.ls c_Int a1)] [] (Det (.one (.own 0)) [(0,some (.row 132 2 r.length (lsEl zaP r)))]):=by
 unfold zaw at h
 refine fn_intro' 9 Tryz.func103 rfl rfl rfl (aw_seq (aw_region (s_sa ?_)))
 refine aops_nil (aw_seq (aw_region ?_))
 iterate 2 refine s_mv ?_
 refine zaa rfl (ev_build' (out:=[_,_]) rfl rfl rfl rfl rfl) ?_
 refine zaa rfl (zac (el:=lsEl zaP [(⟨a0,a1⟩:Bytecodeeffect)]) 0 rfl rfl rfl rfl rfl rfl rfl rfl (lit_el zaP 2 [(⟨a0,a1⟩:Bytecodeeffect)] (fun _=>rfl)) rfl) (s_sa (aops_nil ?_))
 cases sj h
 refine aw_ret ⟨rfl,ret_r 0 r1 rfl rfl rfl ?_ ?_ ?_⟩
 ·first|exact TLe.refl _|(repeat' (first|exact .refl _|exact .nil|refine .tup ?_|refine .v ?_|refine .cons ?_ ?_|refine .agg ?_|refine .one ?_|exact .nil _|exact .emp _|refine .val ?_|refine .slc ?_ ?_|fail))
 ·rfl
 ·rfl
set_option maxHeartbeats 2000000 in
theorem zgR {k:Nat} {a0:Code} {a1:CodeType} {a2:CodeMethod} {a3:Instr} {a4:Int} {r:(List Bytecodeeffect)} (h:zal k a0 a1 a2 a3 a4=some r):FnC Tryz.prog 81 [.agg [CV.ls zab a0.Types],.agg (zab a1),.agg (zad a2),.agg (c_Instr a3),vI a4] [] (Det (.one (CV.ls zaP r)) []):=by
 unfold zal at h
 refine fn_intro' 239 Tryz.func81 rfl rfl rfl (aw_seq (aw_region (zaa rfl (st_box 0 rfl rfl rfl rfl) (zaa rfl (st_box 1 rfl rfl rfl rfl) ?_))))
 refine zaa rfl (st_box 2 rfl rfl rfl rfl) (zaa rfl (st_box 3 rfl rfl rfl rfl) (s_sa ?_))
 refine aops_nil (aw_seq (aw_region (s_sa ?_)))
 refine aops_nil (aw_seq (aw_seq (aw_region (s_fd ?_))))
 refine s_ld ?_
 refine aops_nil (aw_block (aw_seq (aw_region (s_cm ?_))))
 refine s_sa (aops_nil ?_)
 refine aw_if h (fun c1 h=>?_) (fun c1 h=>?_)
 ·refine aw_seq (aw_region (s_mv ?_))
  iterate 2 refine s_fd ?_
  refine s_ld ?_
  refine zaa rfl (zac (el:=lsEl c_Int [a3.Value.Kind]) 4 rfl rfl rfl rfl rfl rfl rfl rfl (lit_el c_Int 1 [a3.Value.Kind] (fun _=>rfl)) rfl) ?_
  obtain ⟨x2,hx2,h⟩:=bind_s h
  refine zae 4 rfl ?_
  refine zaa rfl (ev_callee rfl (st_call_r (r':=.one (.own 5)) 5 rfl (zao hx2) rfl [] ai rfl rfl rfl (.inl rfl) rfl rfl)) (s_sa (aops_nil ?_))
  cases sj h
  refine aw_freeze 5 rfl ?_
  exact aw_ret ⟨rfl,rv r1⟩
 refine aw_seq (aw_region (s_cm ?_))
 refine s_sa (aops_nil ?_)
 refine aw_if h (fun c3 h=>?_) (fun c3 h=>?_)
 ·refine aw_seq (aw_region (s_mv ?_))
  refine s_fd ?_
  refine s_ld ?_
  refine s_fd ?_
  refine s_ld ?_
  obtain ⟨g4,h⟩:=ifp_s h
  refine zaa rfl (zaf rfl rfl (idx_eq g4) (idx_lt g4) rfl rfl) (zaa rfl (zas rfl rfl rfl) ?_)
  refine zaa rfl (zac (el:=lsEl c_Int [(a2.Locals.getD ((a3.A).toNat) default)]) 4 rfl rfl rfl rfl rfl rfl rfl rfl (lit_el c_Int 1 [(a2.Locals.getD ((a3.A).toNat) default)] (fun _=>rfl)) rfl) ?_
  obtain ⟨x5,hx5,h⟩:=bind_s h
  refine zae 4 rfl ?_
  refine zaa rfl (ev_callee rfl (st_call_r (r':=.one (.own 5)) 5 rfl (zao hx5) rfl [] ai rfl rfl rfl (.inl rfl) rfl rfl)) (s_sa (aops_nil ?_))
  cases sj h
  refine aw_freeze 5 rfl ?_
  exact aw_ret ⟨rfl,rv r1⟩
 refine aw_seq (aw_region (s_cm ?_))
 refine s_sa (aops_nil ?_)
 refine aw_if h (fun c6 h=>?_) (fun c6 h=>?_)
 ·refine aw_seq (aw_region (s_mv ?_))
  refine s_fd ?_
  refine s_ld ?_
  refine s_fd ?_
  refine s_ld ?_
  obtain ⟨g7,h⟩:=ifp_s h
  refine zaa rfl (zaf rfl rfl (idx_eq g7) (idx_lt g7) rfl rfl) (zaa rfl (zas rfl rfl rfl) ?_)
  refine zaa rfl (zac (el:=lsEl c_Int [(a2.Locals.getD ((a3.A).toNat) default)]) 4 rfl rfl rfl rfl rfl rfl rfl rfl (lit_el c_Int 1 [(a2.Locals.getD ((a3.A).toNat) default)] (fun _=>rfl)) rfl) ?_
  obtain ⟨x8,hx8,h⟩:=bind_s h
  refine zae 4 rfl ?_
  refine zaa rfl (ev_callee rfl (st_call_r (r':=.one (.own 5)) 5 rfl (zao hx8) rfl [] ai rfl rfl rfl (.inl rfl) rfl rfl)) (s_sa (aops_nil ?_))
  cases sj h
  refine aw_freeze 5 rfl ?_
  exact aw_ret ⟨rfl,rv r1⟩
 refine aw_seq (aw_region (s_cm ?_))
 refine s_sa (aops_nil ?_)
 refine aw_if h (fun c9 h=>?_) (fun c9 h=>?_)
 ·refine aw_seq (aw_region (s_mv ?_))
  refine s_fd ?_
  refine s_ld ?_
  refine s_fd ?_
  refine s_ld ?_
  obtain ⟨g10,h⟩:=ifp_s h
  refine zaa rfl (zaf rfl rfl (idx_eq g10) (idx_lt g10) rfl rfl) (zaa rfl (zaM rfl rfl rfl) ?_)
  refine zaa rfl (zas rfl rfl rfl) ?_
  refine zaa rfl (zac (el:=lsEl c_Int [((a1.Fields.getD ((a3.A).toNat) default).Kind)]) 4 rfl rfl rfl rfl rfl rfl rfl rfl (lit_el c_Int 1 [((a1.Fields.getD ((a3.A).toNat) default).Kind)] (fun _=>rfl)) rfl) ?_
  obtain ⟨x11,hx11,h⟩:=bind_s h
  refine zae 4 rfl ?_
  refine zaa rfl (ev_callee rfl (st_call_r (r':=.one (.own 5)) 5 rfl (zao hx11) rfl [] ai rfl rfl rfl (.inl rfl) rfl rfl)) (s_sa (aops_nil ?_))
  cases sj h
  refine aw_freeze 5 rfl ?_
  exact aw_ret ⟨rfl,rv r1⟩
 refine aw_seq (aw_region (s_cm ?_))
 refine s_sa (aops_nil ?_)
 refine aw_if h (fun c12 h=>?_) (fun c12 h=>?_)
 ·refine aw_seq (aw_region (s_mv ?_))
  refine s_fd ?_
  refine s_ld ?_
  refine s_fd ?_
  refine s_ld ?_
  obtain ⟨g13,h⟩:=ifp_s h
  refine zaa rfl (zaf rfl rfl (idx_eq g13) (idx_lt g13) rfl rfl) (zaa rfl (zaM rfl rfl rfl) ?_)
  refine zaa rfl (zas rfl rfl rfl) ?_
  refine zaa rfl (zac (el:=lsEl c_Int [((a1.Fields.getD ((a3.A).toNat) default).Kind)]) 4 rfl rfl rfl rfl rfl rfl rfl rfl (lit_el c_Int 1 [((a1.Fields.getD ((a3.A).toNat) default).Kind)] (fun _=>rfl)) rfl) ?_
  obtain ⟨x14,hx14,h⟩:=bind_s h
  refine zae 4 rfl ?_
  refine zaa rfl (ev_callee rfl (st_call_r (r':=.one (.own 5)) 5 rfl (zao hx14) rfl [] ai rfl rfl rfl (.inl rfl) rfl rfl)) (s_sa (aops_nil ?_))
  cases sj h
  refine aw_freeze 5 rfl ?_
  exact aw_ret ⟨rfl,rv r1⟩
 refine aw_seq (aw_region (s_cm ?_))
 refine s_sa (aops_nil ?_)
 refine aw_if h (fun c15 h=>?_) (fun c15 h=>?_)
 ·refine aw_seq (aw_region (s_mv ?_))
  refine zaa rfl (zac (el:=lsEl c_Int [3]) 4 rfl rfl rfl rfl rfl rfl rfl rfl (lit_el c_Int 1 [3] (fun _=>rfl)) rfl) ?_
  obtain ⟨x16,hx16,h⟩:=bind_s h
  refine zae 4 rfl ?_
  refine zaa rfl (ev_callee rfl (st_call_r (r':=.one (.own 5)) 5 rfl (zao hx16) rfl [] ai rfl rfl rfl (.inl rfl) rfl rfl)) (s_sa (aops_nil ?_))
  cases sj h
  refine aw_freeze 5 rfl ?_
  exact aw_ret ⟨rfl,rv r1⟩
 refine aw_seq (aw_region (s_cm ?_))
 refine s_sa (aops_nil ?_)
 refine aw_if h (fun c17 h=>?_) (fun c17 h=>?_)
 ·refine aw_seq (aw_region (s_mv ?_))
  refine zaa rfl (zac (el:=lsEl c_Int [1]) 4 rfl rfl rfl rfl rfl rfl rfl rfl (lit_el c_Int 1 [1] (fun _=>rfl)) rfl) ?_
  refine zaa rfl (zac (el:=lsEl c_Int [1]) 5 rfl rfl rfl rfl rfl rfl rfl rfl (lit_el c_Int 1 [1] (fun _=>rfl)) rfl) ?_
  obtain ⟨x18,hx18,h⟩:=bind_s h
  refine zae 4 rfl (zae 5 rfl ?_)
  refine zaa rfl (ev_callee rfl (st_call_r (r':=.one (.own 6)) 6 rfl (zao hx18) rfl [] ai rfl rfl rfl (.inl rfl) rfl rfl)) (s_sa (aops_nil ?_))
  cases sj h
  refine aw_freeze 6 rfl ?_
  exact aw_ret ⟨rfl,rv r1⟩
 refine aw_seq (aw_region (s_cm ?_))
 refine s_sa (aops_nil ?_)
 refine aw_if h (fun c19 h=>?_) (fun c19 h=>?_)
 ·refine aw_seq (aw_region (s_mv ?_))
  refine zaa rfl (zac (el:=lsEl c_Int [2]) 4 rfl rfl rfl rfl rfl rfl rfl rfl (lit_el c_Int 1 [2] (fun _=>rfl)) rfl) ?_
  refine zaa rfl (zac (el:=lsEl c_Int [2]) 5 rfl rfl rfl rfl rfl rfl rfl rfl (lit_el c_Int 1 [2] (fun _=>rfl)) rfl) ?_
  obtain ⟨x20,hx20,h⟩:=bind_s h
  refine zae 4 rfl (zae 5 rfl ?_)
  refine zaa rfl (ev_callee rfl (st_call_r (r':=.one (.own 6)) 6 rfl (zao hx20) rfl [] ai rfl rfl rfl (.inl rfl) rfl rfl)) (s_sa (aops_nil ?_))
  cases sj h
  refine aw_freeze 6 rfl ?_
  exact aw_ret ⟨rfl,rv r1⟩
 refine aw_seq (aw_seq (aw_region (s_cm ?_)))
 refine s_sa (aops_nil ?_)
 refine aw_if h (fun c21 h=>?_) (fun c21 h=>?_)
 ·refine aw_skip (aw_yes rfl (c21) (aw_seq (aw_region (s_mv ?_))))
  refine zaa rfl (zac (el:=lsEl c_Int [1,1]) 4 rfl rfl rfl rfl rfl rfl rfl rfl (lit_el c_Int 1 [1,1] (fun _=>rfl)) rfl) ?_
  refine zaa rfl (zac (el:=lsEl c_Int [1]) 5 rfl rfl rfl rfl rfl rfl rfl rfl (lit_el c_Int 1 [1] (fun _=>rfl)) rfl) ?_
  obtain ⟨x22,hx22,h⟩:=bind_s h
  refine zae 4 rfl (zae 5 rfl ?_)
  refine zaa rfl (ev_callee rfl (st_call_r (r':=.one (.own 6)) 6 rfl (zao hx22) rfl [] ai rfl rfl rfl (.inl rfl) rfl rfl)) (s_sa (aops_nil ?_))
  cases sj h
  refine aw_freeze 6 rfl ?_
  exact aw_ret ⟨rfl,rv r1⟩
 refine aw_seq (aw_region (s_cm ?_))
 refine s_sa (aops_nil ?_)
 refine aw_if h (fun c23 h=>?_) (fun c23 h=>?_)
 ·refine aw_skip (aw_yes rfl (c23) (aw_seq (aw_region (s_mv ?_))))
  refine zaa rfl (zac (el:=lsEl c_Int [1,1]) 4 rfl rfl rfl rfl rfl rfl rfl rfl (lit_el c_Int 1 [1,1] (fun _=>rfl)) rfl) ?_
  refine zaa rfl (zac (el:=lsEl c_Int [1]) 5 rfl rfl rfl rfl rfl rfl rfl rfl (lit_el c_Int 1 [1] (fun _=>rfl)) rfl) ?_
  obtain ⟨x24,hx24,h⟩:=bind_s h
  refine zae 4 rfl (zae 5 rfl ?_)
  refine zaa rfl (ev_callee rfl (st_call_r (r':=.one (.own 6)) 6 rfl (zao hx24) rfl [] ai rfl rfl rfl (.inl rfl) rfl rfl)) (s_sa (aops_nil ?_))
  cases sj h
  refine aw_freeze 6 rfl ?_
  exact aw_ret ⟨rfl,rv r1⟩
 refine aw_seq (aw_region (s_cm ?_))
 refine s_sa (aops_nil ?_)
 refine aw_if h (fun c25 h=>?_) (fun c25 h=>?_)
 ·refine aw_skip (aw_yes rfl (c25) (aw_seq (aw_region (s_mv ?_))))
  refine zaa rfl (zac (el:=lsEl c_Int [1,1]) 4 rfl rfl rfl rfl rfl rfl rfl rfl (lit_el c_Int 1 [1,1] (fun _=>rfl)) rfl) ?_
  refine zaa rfl (zac (el:=lsEl c_Int [1]) 5 rfl rfl rfl rfl rfl rfl rfl rfl (lit_el c_Int 1 [1] (fun _=>rfl)) rfl) ?_
  obtain ⟨x26,hx26,h⟩:=bind_s h
  refine zae 4 rfl (zae 5 rfl ?_)
  refine zaa rfl (ev_callee rfl (st_call_r (r':=.one (.own 6)) 6 rfl (zao hx26) rfl [] ai rfl rfl rfl (.inl rfl) rfl rfl)) (s_sa (aops_nil ?_))
  cases sj h
  refine aw_freeze 6 rfl ?_
  exact aw_ret ⟨rfl,rv r1⟩
 refine aw_seq (aw_region (s_cm ?_))
 refine s_sa (aops_nil ?_)
 refine aw_if h (fun c27 h=>?_) (fun c27 h=>?_)
 ·refine aw_skip (aw_yes rfl (c27) (aw_seq (aw_region (s_mv ?_))))
  refine zaa rfl (zac (el:=lsEl c_Int [1,1]) 4 rfl rfl rfl rfl rfl rfl rfl rfl (lit_el c_Int 1 [1,1] (fun _=>rfl)) rfl) ?_
  refine zaa rfl (zac (el:=lsEl c_Int [1]) 5 rfl rfl rfl rfl rfl rfl rfl rfl (lit_el c_Int 1 [1] (fun _=>rfl)) rfl) ?_
  obtain ⟨x28,hx28,h⟩:=bind_s h
  refine zae 4 rfl (zae 5 rfl ?_)
  refine zaa rfl (ev_callee rfl (st_call_r (r':=.one (.own 6)) 6 rfl (zao hx28) rfl [] ai rfl rfl rfl (.inl rfl) rfl rfl)) (s_sa (aops_nil ?_))
  cases sj h
  refine aw_freeze 6 rfl ?_
  exact aw_ret ⟨rfl,rv r1⟩
 refine aw_region (s_cm ?_)
 refine s_sa (aops_nil ?_)
 refine aw_if h (fun c29 h=>?_) (fun c29 h=>?_)
 ·refine aw_seq (aw_region (s_mv ?_))
  refine zaa rfl (zac (el:=lsEl c_Int [1,1]) 4 rfl rfl rfl rfl rfl rfl rfl rfl (lit_el c_Int 1 [1,1] (fun _=>rfl)) rfl) ?_
  refine zaa rfl (zac (el:=lsEl c_Int [1]) 5 rfl rfl rfl rfl rfl rfl rfl rfl (lit_el c_Int 1 [1] (fun _=>rfl)) rfl) ?_
  obtain ⟨x30,hx30,h⟩:=bind_s h
  refine zae 4 rfl (zae 5 rfl ?_)
  refine zaa rfl (ev_callee rfl (st_call_r (r':=.one (.own 6)) 6 rfl (zao hx30) rfl [] ai rfl rfl rfl (.inl rfl) rfl rfl)) (s_sa (aops_nil ?_))
  cases sj h
  refine aw_freeze 6 rfl ?_
  exact aw_ret ⟨rfl,rv r1⟩
 refine aw_seq (aw_region (s_cm ?_))
 refine s_sa (aops_nil ?_)
 refine aw_if h (fun c31 h=>?_) (fun c31 h=>?_)
 ·refine aw_seq (aw_region (s_mv ?_))
  refine zaa rfl (zac (el:=lsEl c_Int [3,3]) 4 rfl rfl rfl rfl rfl rfl rfl rfl (lit_el c_Int 1 [3,3] (fun _=>rfl)) rfl) ?_
  refine zaa rfl (zac (el:=lsEl c_Int [3]) 5 rfl rfl rfl rfl rfl rfl rfl rfl (lit_el c_Int 1 [3] (fun _=>rfl)) rfl) ?_
  obtain ⟨x32,hx32,h⟩:=bind_s h
  refine zae 4 rfl (zae 5 rfl ?_)
  refine zaa rfl (ev_callee rfl (st_call_r (r':=.one (.own 6)) 6 rfl (zao hx32) rfl [] ai rfl rfl rfl (.inl rfl) rfl rfl)) (s_sa (aops_nil ?_))
  cases sj h
  refine aw_freeze 6 rfl ?_
  exact aw_ret ⟨rfl,rv r1⟩
 refine aw_seq (aw_seq (aw_region (s_cm ?_)))
 refine s_sa (aops_nil ?_)
 refine aw_if h (fun c33 h=>?_) (fun c33 h=>?_)
 ·refine aw_skip (aw_yes rfl (c33) (aw_seq (aw_region ?_)))
  iterate 3 refine s_mv ?_
  refine zaa rfl (zac (el:=lsEl c_Int [a4,a4]) 4 rfl rfl rfl rfl rfl rfl rfl rfl (lit_el c_Int 1 [a4,a4] (fun _=>rfl)) rfl) ?_
  refine zaa rfl (zac (el:=lsEl c_Int [2]) 5 rfl rfl rfl rfl rfl rfl rfl rfl (lit_el c_Int 1 [2] (fun _=>rfl)) rfl) ?_
  obtain ⟨x34,hx34,h⟩:=bind_s h
  refine zae 4 rfl (zae 5 rfl ?_)
  refine zaa rfl (ev_callee rfl (st_call_r (r':=.one (.own 6)) 6 rfl (zao hx34) rfl [] ai rfl rfl rfl (.inl rfl) rfl rfl)) (s_sa (aops_nil ?_))
  cases sj h
  refine aw_freeze 6 rfl ?_
  exact aw_ret ⟨rfl,rv r1⟩
 refine aw_region (s_cm ?_)
 refine s_sa (aops_nil ?_)
 refine aw_if h (fun c35 h=>?_) (fun c35 h=>?_)
 ·refine aw_seq (aw_region ?_)
  iterate 3 refine s_mv ?_
  refine zaa rfl (zac (el:=lsEl c_Int [a4,a4]) 4 rfl rfl rfl rfl rfl rfl rfl rfl (lit_el c_Int 1 [a4,a4] (fun _=>rfl)) rfl) ?_
  refine zaa rfl (zac (el:=lsEl c_Int [2]) 5 rfl rfl rfl rfl rfl rfl rfl rfl (lit_el c_Int 1 [2] (fun _=>rfl)) rfl) ?_
  obtain ⟨x36,hx36,h⟩:=bind_s h
  refine zae 4 rfl (zae 5 rfl ?_)
  refine zaa rfl (ev_callee rfl (st_call_r (r':=.one (.own 6)) 6 rfl (zao hx36) rfl [] ai rfl rfl rfl (.inl rfl) rfl rfl)) (s_sa (aops_nil ?_))
  cases sj h
  refine aw_freeze 6 rfl ?_
  exact aw_ret ⟨rfl,rv r1⟩
 refine aw_seq (aw_seq (aw_region (s_cm ?_)))
 refine s_sa (aops_nil ?_)
 refine aw_if h (fun c37 h=>?_) (fun c37 h=>?_)
 ·refine aw_skip (aw_yes rfl (c37) (aw_seq (aw_region ?_)))
  refine zaa rfl (zac (el:=lsEl c_Int [1,1]) 4 rfl rfl rfl rfl rfl rfl rfl rfl (lit_el c_Int 1 [1,1] (fun _=>rfl)) rfl) ?_
  refine zaa rfl (zac (el:=lsEl c_Int [2]) 5 rfl rfl rfl rfl rfl rfl rfl rfl (lit_el c_Int 1 [2] (fun _=>rfl)) rfl) ?_
  refine zaa rfl (ev_build' (out:=[_,_]) rfl rfl rfl rfl rfl) ?_
  refine zaa rfl (zac (el:=lsEl c_Int [3,3]) 6 rfl rfl rfl rfl rfl rfl rfl rfl (lit_el c_Int 1 [3,3] (fun _=>rfl)) rfl) ?_
  refine zaa rfl (zac (el:=lsEl c_Int [2]) 7 rfl rfl rfl rfl rfl rfl rfl rfl (lit_el c_Int 1 [2] (fun _=>rfl)) rfl) ?_
  refine zaa rfl (ev_build' (out:=[_,_]) rfl rfl rfl rfl rfl) (zae 4 rfl (zae 5 rfl (zae 6 rfl (zae 7 rfl ?_))))
  refine zaa rfl (zac (el:=lsEl zaP [(⟨[1,1],[2]⟩:Bytecodeeffect),(⟨[3,3],[2]⟩:Bytecodeeffect)]) 8 rfl rfl rfl rfl rfl rfl rfl rfl (lit_el zaP 2 [(⟨[1,1],[2]⟩:Bytecodeeffect),(⟨[3,3],[2]⟩:Bytecodeeffect)] (fun _=>rfl)) rfl) (s_sa (aops_nil ?_))
  cases sj h
  refine aw_freeze 8 rfl ?_
  exact aw_ret ⟨rfl,rv r1⟩
 refine aw_seq (aw_region (s_cm ?_))
 refine s_sa (aops_nil ?_)
 refine aw_if h (fun c38 h=>?_) (fun c38 h=>?_)
 ·refine aw_skip (aw_yes rfl (c38) (aw_seq (aw_region ?_)))
  refine zaa rfl (zac (el:=lsEl c_Int [1,1]) 4 rfl rfl rfl rfl rfl rfl rfl rfl (lit_el c_Int 1 [1,1] (fun _=>rfl)) rfl) ?_
  refine zaa rfl (zac (el:=lsEl c_Int [2]) 5 rfl rfl rfl rfl rfl rfl rfl rfl (lit_el c_Int 1 [2] (fun _=>rfl)) rfl) ?_
  refine zaa rfl (ev_build' (out:=[_,_]) rfl rfl rfl rfl rfl) ?_
  refine zaa rfl (zac (el:=lsEl c_Int [3,3]) 6 rfl rfl rfl rfl rfl rfl rfl rfl (lit_el c_Int 1 [3,3] (fun _=>rfl)) rfl) ?_
  refine zaa rfl (zac (el:=lsEl c_Int [2]) 7 rfl rfl rfl rfl rfl rfl rfl rfl (lit_el c_Int 1 [2] (fun _=>rfl)) rfl) ?_
  refine zaa rfl (ev_build' (out:=[_,_]) rfl rfl rfl rfl rfl) (zae 4 rfl (zae 5 rfl (zae 6 rfl (zae 7 rfl ?_))))
  refine zaa rfl (zac (el:=lsEl zaP [(⟨[1,1],[2]⟩:Bytecodeeffect),(⟨[3,3],[2]⟩:Bytecodeeffect)]) 8 rfl rfl rfl rfl rfl rfl rfl rfl (lit_el zaP 2 [(⟨[1,1],[2]⟩:Bytecodeeffect),(⟨[3,3],[2]⟩:Bytecodeeffect)] (fun _=>rfl)) rfl) (s_sa (aops_nil ?_))
  cases sj h
  refine aw_freeze 8 rfl ?_
  exact aw_ret ⟨rfl,rv r1⟩
 refine aw_seq (aw_region (s_cm ?_))
 refine s_sa (aops_nil ?_)
 refine aw_if h (fun c39 h=>?_) (fun c39 h=>?_)
 ·refine aw_skip (aw_yes rfl (c39) (aw_seq (aw_region ?_)))
  refine zaa rfl (zac (el:=lsEl c_Int [1,1]) 4 rfl rfl rfl rfl rfl rfl rfl rfl (lit_el c_Int 1 [1,1] (fun _=>rfl)) rfl) ?_
  refine zaa rfl (zac (el:=lsEl c_Int [2]) 5 rfl rfl rfl rfl rfl rfl rfl rfl (lit_el c_Int 1 [2] (fun _=>rfl)) rfl) ?_
  refine zaa rfl (ev_build' (out:=[_,_]) rfl rfl rfl rfl rfl) ?_
  refine zaa rfl (zac (el:=lsEl c_Int [3,3]) 6 rfl rfl rfl rfl rfl rfl rfl rfl (lit_el c_Int 1 [3,3] (fun _=>rfl)) rfl) ?_
  refine zaa rfl (zac (el:=lsEl c_Int [2]) 7 rfl rfl rfl rfl rfl rfl rfl rfl (lit_el c_Int 1 [2] (fun _=>rfl)) rfl) ?_
  refine zaa rfl (ev_build' (out:=[_,_]) rfl rfl rfl rfl rfl) (zae 4 rfl (zae 5 rfl (zae 6 rfl (zae 7 rfl ?_))))
  refine zaa rfl (zac (el:=lsEl zaP [(⟨[1,1],[2]⟩:Bytecodeeffect),(⟨[3,3],[2]⟩:Bytecodeeffect)]) 8 rfl rfl rfl rfl rfl rfl rfl rfl (lit_el zaP 2 [(⟨[1,1],[2]⟩:Bytecodeeffect),(⟨[3,3],[2]⟩:Bytecodeeffect)] (fun _=>rfl)) rfl) (s_sa (aops_nil ?_))
  cases sj h
  refine aw_freeze 8 rfl ?_
  exact aw_ret ⟨rfl,rv r1⟩
 refine aw_region (s_cm ?_)
 refine s_sa (aops_nil ?_)
 refine aw_if h (fun c40 h=>?_) (fun c40 h=>?_)
 ·refine aw_seq (aw_region (zaa rfl (zac (el:=lsEl c_Int [1,1]) 4 rfl rfl rfl rfl rfl rfl rfl rfl (lit_el c_Int 1 [1,1] (fun _=>rfl)) rfl) ?_))
  refine zaa rfl (zac (el:=lsEl c_Int [2]) 5 rfl rfl rfl rfl rfl rfl rfl rfl (lit_el c_Int 1 [2] (fun _=>rfl)) rfl) ?_
  refine zaa rfl (ev_build' (out:=[_,_]) rfl rfl rfl rfl rfl) ?_
  refine zaa rfl (zac (el:=lsEl c_Int [3,3]) 6 rfl rfl rfl rfl rfl rfl rfl rfl (lit_el c_Int 1 [3,3] (fun _=>rfl)) rfl) ?_
  refine zaa rfl (zac (el:=lsEl c_Int [2]) 7 rfl rfl rfl rfl rfl rfl rfl rfl (lit_el c_Int 1 [2] (fun _=>rfl)) rfl) ?_
  refine zaa rfl (ev_build' (out:=[_,_]) rfl rfl rfl rfl rfl) (zae 4 rfl (zae 5 rfl (zae 6 rfl (zae 7 rfl ?_))))
  refine zaa rfl (zac (el:=lsEl zaP [(⟨[1,1],[2]⟩:Bytecodeeffect),(⟨[3,3],[2]⟩:Bytecodeeffect)]) 8 rfl rfl rfl rfl rfl rfl rfl rfl (lit_el zaP 2 [(⟨[1,1],[2]⟩:Bytecodeeffect),(⟨[3,3],[2]⟩:Bytecodeeffect)] (fun _=>rfl)) rfl) (s_sa (aops_nil ?_))
  cases sj h
  refine aw_freeze 8 rfl ?_
  exact aw_ret ⟨rfl,rv r1⟩
 refine aw_seq (aw_region (s_cm ?_))
 refine s_sa (aops_nil ?_)
 refine aw_if h (fun c41 h=>?_) (fun c41 h=>?_)
 ·refine aw_seq (aw_region (zaa rfl (zac (el:=lsEl c_Int [3]) 4 rfl rfl rfl rfl rfl rfl rfl rfl (lit_el c_Int 1 [3] (fun _=>rfl)) rfl) ?_))
  refine zaa rfl (zac (el:=lsEl c_Int [1]) 5 rfl rfl rfl rfl rfl rfl rfl rfl (lit_el c_Int 1 [1] (fun _=>rfl)) rfl) ?_
  refine zaa rfl (ev_build' (out:=[_,_]) rfl rfl rfl rfl rfl) ?_
  refine zaa rfl (zac (el:=lsEl c_Int [4]) 6 rfl rfl rfl rfl rfl rfl rfl rfl (lit_el c_Int 1 [4] (fun _=>rfl)) rfl) ?_
  refine zaa rfl (zac (el:=lsEl c_Int [1]) 7 rfl rfl rfl rfl rfl rfl rfl rfl (lit_el c_Int 1 [1] (fun _=>rfl)) rfl) ?_
  refine zaa rfl (ev_build' (out:=[_,_]) rfl rfl rfl rfl rfl) ?_
  refine zaa rfl (zac (el:=lsEl c_Int [5]) 8 rfl rfl rfl rfl rfl rfl rfl rfl (lit_el c_Int 1 [5] (fun _=>rfl)) rfl) ?_
  refine zaa rfl (zac (el:=lsEl c_Int [1]) 9 rfl rfl rfl rfl rfl rfl rfl rfl (lit_el c_Int 1 [1] (fun _=>rfl)) rfl) ?_
  refine zaa rfl (ev_build' (out:=[_,_]) rfl rfl rfl rfl rfl) (zae 4 rfl (zae 5 rfl (zae 6 rfl (zae 7 rfl (zae 8 rfl ?_)))))
  refine zae 9 rfl ?_
  refine zaa rfl (zac (el:=lsEl zaP [(⟨[3],[1]⟩:Bytecodeeffect),(⟨[4],[1]⟩:Bytecodeeffect),(⟨[5],[1]⟩:Bytecodeeffect)]) 10 rfl rfl rfl rfl rfl rfl rfl rfl (lit_el zaP 2 [(⟨[3],[1]⟩:Bytecodeeffect),(⟨[4],[1]⟩:Bytecodeeffect),(⟨[5],[1]⟩:Bytecodeeffect)] (fun _=>rfl)) rfl) (s_sa (aops_nil ?_))
  cases sj h
  refine aw_freeze 10 rfl ?_
  exact aw_ret ⟨rfl,rv r1⟩
 refine aw_seq (aw_region (s_cm ?_))
 refine s_sa (aops_nil ?_)
 refine aw_if h (fun c42 h=>?_) (fun c42 h=>?_)
 ·refine aw_seq (aw_region (zaa rfl (zac (el:=lsEl c_Int [4,1]) 4 rfl rfl rfl rfl rfl rfl rfl rfl (lit_el c_Int 1 [4,1] (fun _=>rfl)) rfl) ?_))
  refine zaa rfl (zac (el:=lsEl c_Int [1]) 5 rfl rfl rfl rfl rfl rfl rfl rfl (lit_el c_Int 1 [1] (fun _=>rfl)) rfl) ?_
  refine zaa rfl (ev_build' (out:=[_,_]) rfl rfl rfl rfl rfl) ?_
  refine zaa rfl (zac (el:=lsEl c_Int [5,1]) 6 rfl rfl rfl rfl rfl rfl rfl rfl (lit_el c_Int 1 [5,1] (fun _=>rfl)) rfl) ?_
  refine zaa rfl (zac (el:=lsEl c_Int [3]) 7 rfl rfl rfl rfl rfl rfl rfl rfl (lit_el c_Int 1 [3] (fun _=>rfl)) rfl) ?_
  refine zaa rfl (ev_build' (out:=[_,_]) rfl rfl rfl rfl rfl) (zae 4 rfl (zae 5 rfl (zae 6 rfl (zae 7 rfl ?_))))
  refine zaa rfl (zac (el:=lsEl zaP [(⟨[4,1],[1]⟩:Bytecodeeffect),(⟨[5,1],[3]⟩:Bytecodeeffect)]) 8 rfl rfl rfl rfl rfl rfl rfl rfl (lit_el zaP 2 [(⟨[4,1],[1]⟩:Bytecodeeffect),(⟨[5,1],[3]⟩:Bytecodeeffect)] (fun _=>rfl)) rfl) (s_sa (aops_nil ?_))
  cases sj h
  refine aw_freeze 8 rfl ?_
  exact aw_ret ⟨rfl,rv r1⟩
 refine aw_seq (aw_region (s_cm ?_))
 refine s_sa (aops_nil ?_)
 refine aw_if h (fun c43 h=>?_) (fun c43 h=>?_)
 ·refine aw_seq (aw_region (zaa rfl (zac (el:=lsEl c_Int [4,1]) 4 rfl rfl rfl rfl rfl rfl rfl rfl (lit_el c_Int 1 [4,1] (fun _=>rfl)) rfl) ?_))
  refine zaa rfl (zac (el:=lsEl c_Int [4]) 5 rfl rfl rfl rfl rfl rfl rfl rfl (lit_el c_Int 1 [4] (fun _=>rfl)) rfl) ?_
  refine zaa rfl (ev_build' (out:=[_,_]) rfl rfl rfl rfl rfl) ?_
  refine zaa rfl (zac (el:=lsEl c_Int [5,3]) 6 rfl rfl rfl rfl rfl rfl rfl rfl (lit_el c_Int 1 [5,3] (fun _=>rfl)) rfl) ?_
  refine zaa rfl (zac (el:=lsEl c_Int [5]) 7 rfl rfl rfl rfl rfl rfl rfl rfl (lit_el c_Int 1 [5] (fun _=>rfl)) rfl) ?_
  refine zaa rfl (ev_build' (out:=[_,_]) rfl rfl rfl rfl rfl) (zae 4 rfl (zae 5 rfl (zae 6 rfl (zae 7 rfl ?_))))
  refine zaa rfl (zac (el:=lsEl zaP [(⟨[4,1],[4]⟩:Bytecodeeffect),(⟨[5,3],[5]⟩:Bytecodeeffect)]) 8 rfl rfl rfl rfl rfl rfl rfl rfl (lit_el zaP 2 [(⟨[4,1],[4]⟩:Bytecodeeffect),(⟨[5,3],[5]⟩:Bytecodeeffect)] (fun _=>rfl)) rfl) (s_sa (aops_nil ?_))
  cases sj h
  refine aw_freeze 8 rfl ?_
  exact aw_ret ⟨rfl,rv r1⟩
 refine aw_seq (aw_region (s_cm ?_))
 refine s_sa (aops_nil ?_)
 refine aw_if h (fun c44 h=>?_) (fun c44 h=>?_)
 ·refine aw_seq (aw_region ?_)
  refine zaa rfl (zac (el:=lsEl c_Int [4,1,1]) 4 rfl rfl rfl rfl rfl rfl rfl rfl (lit_el c_Int 1 [4,1,1] (fun _=>rfl)) rfl) ?_
  refine zaa rfl (zac (el:=lsEl c_Int [4]) 5 rfl rfl rfl rfl rfl rfl rfl rfl (lit_el c_Int 1 [4] (fun _=>rfl)) rfl) ?_
  refine zaa rfl (ev_build' (out:=[_,_]) rfl rfl rfl rfl rfl) ?_
  refine zaa rfl (zac (el:=lsEl c_Int [5,1,3]) 6 rfl rfl rfl rfl rfl rfl rfl rfl (lit_el c_Int 1 [5,1,3] (fun _=>rfl)) rfl) ?_
  refine zaa rfl (zac (el:=lsEl c_Int [5]) 7 rfl rfl rfl rfl rfl rfl rfl rfl (lit_el c_Int 1 [5] (fun _=>rfl)) rfl) ?_
  refine zaa rfl (ev_build' (out:=[_,_]) rfl rfl rfl rfl rfl) (zae 4 rfl (zae 5 rfl (zae 6 rfl (zae 7 rfl ?_))))
  refine zaa rfl (zac (el:=lsEl zaP [(⟨[4,1,1],[4]⟩:Bytecodeeffect),(⟨[5,1,3],[5]⟩:Bytecodeeffect)]) 8 rfl rfl rfl rfl rfl rfl rfl rfl (lit_el zaP 2 [(⟨[4,1,1],[4]⟩:Bytecodeeffect),(⟨[5,1,3],[5]⟩:Bytecodeeffect)] (fun _=>rfl)) rfl) (s_sa (aops_nil ?_))
  cases sj h
  refine aw_freeze 8 rfl ?_
  exact aw_ret ⟨rfl,rv r1⟩
 refine aw_seq (aw_region (s_cm ?_))
 refine s_sa (aops_nil ?_)
 refine aw_if h (fun c45 h=>?_) (fun c45 h=>?_)
 ·refine aw_seq (aw_region (s_mv ?_))
  refine zaa rfl (zac (el:=lsEl c_Int [1]) 4 rfl rfl rfl rfl rfl rfl rfl rfl (lit_el c_Int 1 [1] (fun _=>rfl)) rfl) ?_
  refine zaa rfl (zac (el:=lsEl c_Int [3]) 5 rfl rfl rfl rfl rfl rfl rfl rfl (lit_el c_Int 1 [3] (fun _=>rfl)) rfl) ?_
  obtain ⟨x46,hx46,h⟩:=bind_s h
  refine zae 4 rfl (zae 5 rfl ?_)
  refine zaa rfl (ev_callee rfl (st_call_r (r':=.one (.own 6)) 6 rfl (zao hx46) rfl [] ai rfl rfl rfl (.inl rfl) rfl rfl)) (s_sa (aops_nil ?_))
  cases sj h
  refine aw_freeze 6 rfl ?_
  exact aw_ret ⟨rfl,rv r1⟩
 refine aw_seq (aw_region (s_cm ?_))
 refine s_sa (aops_nil ?_)
 refine aw_if h (fun c47 h=>?_) (fun c47 h=>?_)
 ·refine aw_seq (aw_region (s_mv ?_))
  refine s_fd ?_
  refine s_ld ?_
  obtain ⟨x48,hx48,h⟩:=bind_s h
  refine zaa rfl (ev_call_v (zfL hx48) rfl [] ai rfl rfl rfl (.inl rfl) rfl) ?_
  refine zaa rfl (zac (el:=lsEl c_Int [4]) 4 rfl rfl rfl rfl rfl rfl rfl rfl (lit_el c_Int 1 [4] (fun _=>rfl)) rfl) ?_
  obtain ⟨x49,hx49,h⟩:=bind_s h
  refine zae 4 rfl ?_
  refine zaa rfl (ev_callee rfl (st_call_r (r':=.one (.own 5)) 5 rfl (zao hx49) rfl [] ai rfl rfl rfl (.inl rfl) rfl rfl)) (s_sa (aops_nil ?_))
  cases sj h
  refine aw_freeze 5 rfl ?_
  exact aw_ret ⟨rfl,rv r1⟩
 refine aw_seq (aw_region (s_cm ?_))
 refine s_sa (aops_nil ?_)
 refine aw_if h (fun c50 h=>?_) (fun c50 h=>?_)
 ·refine aw_seq (aw_region (s_mv ?_))
  refine s_fd ?_
  refine s_ld ?_
  obtain ⟨x51,hx51,h⟩:=bind_s h
  refine zaa rfl (ev_call_v (zfL hx51) rfl [] ai rfl rfl rfl (.inl rfl) rfl) ?_
  refine zaa rfl (zac (el:=lsEl c_Int [5]) 4 rfl rfl rfl rfl rfl rfl rfl rfl (lit_el c_Int 1 [5] (fun _=>rfl)) rfl) ?_
  obtain ⟨x52,hx52,h⟩:=bind_s h
  refine zae 4 rfl ?_
  refine zaa rfl (ev_callee rfl (st_call_r (r':=.one (.own 5)) 5 rfl (zao hx52) rfl [] ai rfl rfl rfl (.inl rfl) rfl rfl)) (s_sa (aops_nil ?_))
  cases sj h
  refine aw_freeze 5 rfl ?_
  exact aw_ret ⟨rfl,rv r1⟩
 refine aw_seq (aw_region (s_cm ?_))
 refine s_sa (aops_nil ?_)
 refine aw_if h (fun c53 h=>?_) (fun c53 h=>?_)
 ·refine aw_seq (aw_region (s_mv ?_))
  refine zaa rfl (zac (el:=lsEl c_Int [2]) 4 rfl rfl rfl rfl rfl rfl rfl rfl (lit_el c_Int 1 [2] (fun _=>rfl)) rfl) ?_
  obtain ⟨x54,hx54,h⟩:=bind_s h
  refine zae 4 rfl ?_
  refine zaa rfl (ev_callee rfl (st_call_r (r':=.one (.own 5)) 5 rfl (zao hx54) rfl [] ai rfl rfl rfl (.inl rfl) rfl rfl)) (s_sa (aops_nil ?_))
  cases sj h
  refine aw_freeze 5 rfl ?_
  exact aw_ret ⟨rfl,rv r1⟩
 refine aw_seq (aw_region (s_cm ?_))
 refine s_sa (aops_nil ?_)
 refine aw_if h (fun c55 h=>?_) (fun c55 h=>?_)
 ·obtain ⟨g56,h⟩:=ifp_s h
  obtain ⟨g57,h⟩:=ifp_s h
  refine aw_seq ?_
  apply aw_draw 12 ((⟨[],.one (.ptr 0 _)⟩:Add)::⟨[],.one (CV.ls zab a0.Types)⟩::⟨[],.one (.ptr 3 _)⟩::⟨[],vI a3.A⟩::⟨[],.one (.cptr _)⟩::⟨[],.one (.cptr _)⟩::⟨[],.one (CV.ls zad ((a0.Types.getD ((a3.A).toNat) default).Methods))⟩::⟨[],.one (.ptr 3 _)⟩::⟨[],vI a3.B⟩::⟨[],.one (.cptr _)⟩::⟨[],.agg (zad (((a0.Types.getD ((a3.A).toNat) default).Methods).getD ((a3.B).toNat) default))⟩::⟨[(4,some (.box [.val (Sv []),.val (.slice none 0 0),cI 0,.val (.slice none 0 0),.val (.slice none 0 0)]))],.one (.ptr 4 _)⟩::[]) (by decide) rfl ?hk1x ?hf1x ?ho1x ?hr1x
  case ho1x =>
   refine o_fd 0 ?_
   refine o_ld 1 ?_
   refine o_fd 0 ?_
   refine o_ld 4 ?_
   refine obn 15 (fun S hle hfr=>.inl ⟨w0,zaf (hle.e rfl) (hle.e rfl) (idx_eq g56) (idx_lt g56) rfl (hle.d rfl)⟩) ?_
   refine o_fi 31 ?_
   refine o_li 63 ?_
   refine o_fd 0 ?_
   refine o_ld 128 ?_
   refine obn 511 (fun S hle hfr=>.inl ⟨w0,zaf (hle.e rfl) (hle.e rfl) (idx_eq g57) (idx_lt g57) rfl (hle.d rfl)⟩) ?_
   refine obn 1023 (fun S hle hfr=>.inl ⟨w0,zaI (ds:=[_,_,_,_,_]) (hle.e rfl) rfl rfl (hle.d rfl)⟩) ?_
   refine obn 0 (fun S hle hfr=>.inl ⟨w0,st_alloc (cs:=[.val (Sv []),.val (.slice none 0 0),cI 0,.val (.slice none 0 0),.val (.slice none 0 0)]) 4 (hfr _ (List.mem_singleton.2 rfl)) rfl rfl rfl (hle.d rfl)⟩) ?_
   exact trivial
  case hk1x=>rfl
  case hf1x=>rfl
  refine s_st [_,_,_,_,_] (aops_nil ?_)
  obtain ⟨g58,h⟩:=ifp_s h
  obtain ⟨x59,hx59,h⟩:=bind_s h
  obtain ⟨x60,hx60,h⟩:=bind_s h
  refine aw_seq ?_
  apply aw_draw 7 [ad _,ad _,ad _,ad _,ad _,ad _,ad _] (by decide) rfl ?hk2x ?hf2x ?ho2x ?hr2x
  case ho2x =>
   refine o_mv 0 ?_
   refine obn 0 (fun S hle hfr=>.inl ⟨w0,zhS (el:=lsEl c_Int [3]) (map_ev2 (.cons (hle.e rfl) (.nil))) rfl rfl rfl rfl rfl rfl (lit_el c_Int 1 [3] (fun _=>rfl)) (hle.d rfl)⟩) ?_
   refine o_fd 0 ?_
   refine o_ld 4 ?_
   refine obn 14 (fun S hle hfr=>.inl ⟨w0,zhl (f:=c_Int) [3] ((((a0.Types.getD ((a3.A).toNat) default).Methods).getD ((a3.B).toNat) default).Params) (fun _=>rfl) (hle.e rfl) (.inl (hle.e rfl)) (by omega) (by omega) (hle.d rfl)⟩) ?_
   refine obn 0 (fun S hle hfr=>.inl ⟨w0,ev_loads (ds:=[_,_,_,_,_]) (hle.e rfl) (hle.heap _ _ rfl) rfl rfl (hle.d rfl)⟩) ?_
   refine obn 62 (fun S hle hfr=>.inl ⟨w0,ev_call_v (zfQ hx59) (map_ev (.cons (hle.e rfl) (.nil))) [] (by repeat' (first|exact .nil|refine .cons ?_ ?_|refine .one ?_|refine .agg ?_|exact .mk rfl|exact .lend (hle.heap _ _ rfl) (by simp)|exact .le (.nil _) rfl|exact .le (.emp _) rfl|exact .le (.any _) rfl|fail)) rfl rfl rfl (.inl rfl) (hle.d rfl)⟩) ?_
   exact trivial
  case hk2x=>rfl
  case hf2x=>rfl
  refine zaa rfl (ev_callee rfl (st_call_z (zao hx60) rfl [] (fun _=>ai) rfl (.inl rfl) rfl)) (s_sa (aops_nil ?_))
  cases sj h
  exact aw_ret ⟨rfl,rv r1⟩
 refine aw_seq (aw_region (s_cm ?_))
 refine s_sa (aops_nil ?_)
 refine aw_if h (fun c61 h=>?_) (fun c61 h=>?_)
 ·refine aw_seq (aw_region ?_)
  iterate 2 refine s_mv ?_
  refine zaa rfl (zac (el:=lsEl c_Int [a4]) 4 rfl rfl rfl rfl rfl rfl rfl rfl (lit_el c_Int 1 [a4] (fun _=>rfl)) rfl) ?_
  obtain ⟨x62,hx62,h⟩:=bind_s h
  refine zae 4 rfl ?_
  refine zaa rfl (ev_callee rfl (st_call_r (r':=.one (.own 5)) 5 rfl (zao hx62) rfl [] ai rfl rfl rfl (.inl rfl) rfl rfl)) (s_sa (aops_nil ?_))
  cases sj h
  refine aw_freeze 5 rfl ?_
  exact aw_ret ⟨rfl,rv r1⟩
 refine aw_seq (aw_region (s_cm ?_))
 refine s_sa (aops_nil ?_)
 refine aw_if h (fun c63 h=>?_) (fun c63 h=>?_)
 ·refine aw_seq (aw_region (s_mv ?_))
  refine s_ls [_,_,_,_,_] ?_
  obtain ⟨x64,hx64,h⟩:=bind_s h
  refine zaa rfl (ev_call_v (zfQ hx64) rfl [] ai rfl rfl rfl (.inl rfl) rfl) ?_
  obtain ⟨x65,hx65,h⟩:=bind_s h
  refine zaa rfl (ev_callee rfl (st_call_r (r':=.one (.own 4)) 4 rfl (zao hx65) rfl [] ai rfl rfl rfl (.inl rfl) rfl rfl)) (s_sa (aops_nil ?_))
  cases sj h
  refine aw_freeze 4 rfl ?_
  exact aw_ret ⟨rfl,rv r1⟩
 refine aw_seq (aw_region (s_cm ?_))
 refine s_sa (aops_nil ?_)
 refine aw_if h (fun c66 h=>?_) (fun c66 h=>?_)
 ·refine aw_seq (aw_region (s_mv ?_))
  refine zaa rfl (zac (el:=lsEl c_Int [3,1]) 4 rfl rfl rfl rfl rfl rfl rfl rfl (lit_el c_Int 1 [3,1] (fun _=>rfl)) rfl) ?_
  obtain ⟨x67,hx67,h⟩:=bind_s h
  refine zae 4 rfl ?_
  refine zaa rfl (ev_callee rfl (st_call_r (r':=.one (.own 5)) 5 rfl (zao hx67) rfl [] ai rfl rfl rfl (.inl rfl) rfl rfl)) (s_sa (aops_nil ?_))
  cases sj h
  refine aw_freeze 5 rfl ?_
  exact aw_ret ⟨rfl,rv r1⟩
 refine aw_seq (aw_region (s_cm ?_))
 refine s_sa (aops_nil ?_)
 refine aw_if h (fun c68 h=>?_) (fun c68 h=>?_)
 ·refine aw_seq (aw_region (s_mv ?_))
  refine zaa rfl (zac (el:=lsEl c_Int [3,1,1]) 4 rfl rfl rfl rfl rfl rfl rfl rfl (lit_el c_Int 1 [3,1,1] (fun _=>rfl)) rfl) ?_
  obtain ⟨x69,hx69,h⟩:=bind_s h
  refine zae 4 rfl ?_
  refine zaa rfl (ev_callee rfl (st_call_r (r':=.one (.own 5)) 5 rfl (zao hx69) rfl [] ai rfl rfl rfl (.inl rfl) rfl rfl)) (s_sa (aops_nil ?_))
  cases sj h
  refine aw_freeze 5 rfl ?_
  exact aw_ret ⟨rfl,rv r1⟩
 refine aw_seq (aw_region (s_cm ?_))
 refine s_sa (aops_nil ?_)
 refine aw_if h (fun c70 h=>?_) (fun c70 h=>?_)
 ·refine aw_seq (aw_region (s_mv ?_))
  refine zaa rfl (zac (el:=lsEl c_Int [3]) 4 rfl rfl rfl rfl rfl rfl rfl rfl (lit_el c_Int 1 [3] (fun _=>rfl)) rfl) ?_
  obtain ⟨x71,hx71,h⟩:=bind_s h
  refine zae 4 rfl ?_
  refine zaa rfl (ev_callee rfl (st_call_r (r':=.one (.own 5)) 5 rfl (zao hx71) rfl [] ai rfl rfl rfl (.inl rfl) rfl rfl)) (s_sa (aops_nil ?_))
  cases sj h
  refine aw_freeze 5 rfl ?_
  exact aw_ret ⟨rfl,rv r1⟩
 refine aw_skip (aw_seq (aw_region (s_mv ?_)))
 obtain ⟨x72,hx72,h⟩:=bind_s h
 refine zaa rfl (ev_callee rfl (st_call_r (r':=.one (.own 4)) 4 rfl (zao hx72) rfl [] ai rfl rfl rfl (.inl rfl) rfl rfl)) (s_sa (aops_nil ?_))
 cases sj h
 refine aw_freeze 4 rfl ?_
 exact aw_ret ⟨rfl,rv r1⟩
set_option maxHeartbeats 2000000 in
theorem zho {k:Nat} {a0:Code} {a1:CodeType} {a2:CodeMethod} {a3:Instr} {a4:List Int} {r:(List Int)×Bool} (h:zeC k a0 a1 a2 a3 a4=some r):FnC Tryz.prog 45 [.agg [CV.ls zab a0.Types],.agg (zab a1),.agg (zad a2),.agg (c_Instr a3),.one (CV.ls c_Int a4)] [] (Det (.tup [.one (CV.ls c_Int r.1),vB r.2]) []):=by
 unfold zeC at h
 refine fn_intro' 92 Tryz.func45 rfl rfl rfl (aw_seq (aw_region (zaa rfl (st_box 0 rfl rfl rfl rfl) (zaa rfl (st_box 1 rfl rfl rfl rfl) ?_))))
 refine zaa rfl (st_box 2 rfl rfl rfl rfl) (zaa rfl (st_box 3 rfl rfl rfl rfl) ?_)
 iterate 2 refine s_sa ?_
 refine aops_nil (aw_seq (aw_region (s_sa (aops_nil ?_))))
 obtain ⟨o1,j1,h⟩:=bind_s h
 refine aw_cut (ε:=Int) (fun x=>(⟨92,[],[(4,.one (CV.ls c_Int a4)),(5,.one (.ptr 0 0)),(6,.one (.ptr 1 0)),(7,.one (.ptr 2 0)),(8,.one (.ptr 3 0)),(12,vI x)],[(0,some (.box [CV.ls zab a0.Types])),(1,some (.box (zab a1))),(2,some (.box (zad a2))),(3,some (.box (c_Instr a3)))]⟩:ASt)) (fun x=>Sum.inl x=o1) ?_ ?_
 ·intro x1_0 hI1
  subst hI1
  replace h:=onS_l h
  obtain ⟨o2,j2,h⟩:=bind_s h
  refine aw_cut (ε:=Unit) (fun x=>(⟨92,[],[],[]⟩:ASt)) (fun x=>Sum.inl x=o2) ?_ ?_
  ·intro x2_0 hI2
   subst hI2
   replace h:=onS_l h
   refine aw_seq (aw_region ?_)
   iterate 2 refine s_sa ?_
   refine aops_nil ?_
   cases sj h
   exact aw_ret ⟨rfl,rv (rn (.cons o1 (.cons o1 .nil)))⟩
  refine aw_seq (aw_region (s_ls [_] ?_))
  refine s_ls [_,_,_] ?_
  refine s_ls [_,_,_,_,_] ?_
  refine s_ls [_,_,_,_,_,_,_,_] ?_
  refine s_mv ?_
  obtain ⟨x3,hx3,j2⟩:=bind_s j2
  refine zaa rfl (ev_call_v (zgR hx3) rfl [] ai rfl rfl rfl (.inl rfl) rfl) (s_ln ?_)
  refine s_mv (aops_nil (aw_block ?_))
  obtain ⟨o4,ho4,j2⟩:=bind_s j2
  refine aw_loop (ι:={p:Nat×Nat // zcl k a3 a4 x3 p.1 p.2=some o4}) (fun p=>(⟨92,[],[(4,.one (CV.ls c_Int a4)),(8,.one (.ptr 3 0)),(43,.one (CV.ls zaP x3)),(44,vI ((x3.length:Nat):Int)),(45,vI ((p.1.2:Nat):Int))],[(3,some (.box (c_Instr a3)))]⟩:ASt)) (fun p=>p.1.1) ⟨(k,0),ho4⟩ wk ?_
  intro p4
  obtain ⟨⟨n4,s4_0⟩,l4⟩:=p4
  replace l4:zcl k a3 a4 x3 n4 s4_0=some o4:=l4
  rcases n4 with _|n4
  ·exact absurd (show none=some o4 from l4) nofun
  rw [zcl] at l4
  refine aw_seq (aw_region (s_cm (aops_nil (aw_seq ?_))))
  refine aw_if l4 (fun c5 l4=>?_) (fun c5 l4=>?_)
  ·refine aw_skip ?_
   obtain ⟨o6,j6,l4⟩:=bind_s l4
   refine aw_cut (ε:=Unit) (fun x=>(⟨92,[],[(4,.one (CV.ls c_Int a4)),(8,.one (.ptr 3 0)),(43,.one (CV.ls zaP x3)),(44,vI ((x3.length:Nat):Int)),(45,vI ((s4_0:Nat):Int))],[(3,some (.box (c_Instr a3)))]⟩:ASt)) (fun x=>Sum.inl x=o6) ?_ ?_
   ·intro x6_0 hI6
    subst hI6
    replace l4:=onS_l l4
    refine aw_region ?_
    obtain ⟨g7,l4⟩:=ifp_s l4
    refine zaa rfl (ev_add rfl rfl rfl (nat_add g7)) (s_mv (aops_nil ?_))
    exact ⟨⟨(n4,(s4_0+1)),l4⟩,Nat.lt_succ_self _,wk⟩
   refine aw_block (aw_seq (aw_region ?_))
   obtain ⟨g8,j6⟩:=ifp_s j6
   refine zaa rfl (zaf rfl rfl rfl g8 rfl rfl) (zaa rfl (zaI (ds:=[_,_]) rfl rfl rfl rfl) ?_)
   refine zaa rfl (st_alloc (cs:=[.val (.slice none 0 0),.val (.slice none 0 0)]) 4 rfl rfl rfl rfl rfl) (s_st [_,_] ?_)
   refine aops_nil (aw_seq (aw_region (s_mv ?_)))
   refine s_ln ?_
   refine s_fd ?_
   refine s_ld ?_
   refine s_ln ?_
   refine zaa rfl (ev_sub rfl rfl rfl (wrap_W _)) (s_sa (aops_nil (aw_seq ?_)))
   rcases co j6 with ⟨q9,j6⟩|⟨q9,j6⟩
   ·refine aw_seq ?_
    apply aw_draw 8 [ad _,ad _,ad _,ad _,ad _,ad _,ad _,ad _] (by decide) rfl ?hk58x ?hf58x ?ho58x ?hr58x
    case ho58x =>
     refine o_mv 0 ?_
     refine o_cm 1 ?_
     refine o_mv 3 ?_
     refine on 7 q9 ?_
     refine on 7 q9 ?_
     refine on 31 q9 ?_
     refine on 7 q9 ?_
     refine on 71 q9 ?_
     exact trivial
    case hk58x=>rfl
    case hf58x=>rfl
    iterate 2 refine np q9 ?_
    refine s_py q9 ?_
    refine aops_nil (aw_yes rfl (rfl) (aw_exit ?_))
    show ∃_x:Unit,_=_∧Weak _ _
    exact ⟨(),sj j6,wk⟩
   obtain ⟨g10,j6⟩:=ifp_s j6
   obtain ⟨g11,j6⟩:=ifp_s j6
   obtain ⟨x12,hx12,j6⟩:=bind_s j6
   refine aw_seq ?_
   apply aw_draw 8 [ad _,ad _,ad _,ad _,ad _,ad _,ad _,ad _] (by decide) rfl ?hk59x ?hf59x ?ho59x ?hr59x
   case ho59x =>
    refine o_mv 0 ?_
    refine o_cm 1 ?_
    refine o_mv 3 ?_
    refine p_mv 7 q9 ?_
    refine p_mv 7 q9 ?_
    refine obn 31 (fun S hle hfr=>.inl ⟨wy hle q9,st_cut_lo (f:=c_Int) (fun _=>rfl) (hle.e rfl) ⟨_,_,(hle.e rfl),(nn_eq g10)⟩ g11 (hle.d rfl)⟩) ?_
    refine p_fd 7 q9 ?_
    refine p_ld 71 q9 ?_
    exact trivial
   case hk59x=>rfl
   case hf59x=>rfl
   refine aops_yes rfl rfl rfl rfl q9 (ev_call_v (zdV hx12) rfl [] ai rfl rfl rfl (.inl rfl) rfl) (y_nt q9 ?_)
   refine s_pn q9 (aops_nil ?_)
   refine aw_if j6 (fun c13 j6=>?_) (fun c13 j6=>?_)
   ·refine aw_exit ?_
    show ∃_x:Unit,_=_∧Weak _ _
    exact ⟨(),sj j6,wk⟩
   refine aw_skip (aw_seq (aw_seq (aw_region (s_mv ?_))))
   refine s_cm ?_
   refine s_mv ?_
   refine aops_mid 9 (⟨92,[],[(4,.one (CV.ls c_Int a4)),(14,.one (.ptr 4 0)),(15,vI (W (((a4.length:Nat):Int) - ((((x3.getD s4_0 default).takes).length:Nat):Int)))),(77,vB ((decide ((W (((a4.length:Nat):Int) - ((((x3.getD s4_0 default).takes).length:Nat):Int)))>0))&&((a3.Op==32)||(a3.Op==30))))],[(4,some (.box (zaP (x3.getD s4_0 default))))]⟩:ASt) ?_ ?_
   ·rcases bool_or ((decide ((W (((a4.length:Nat):Int) - ((((x3.getD s4_0 default).takes).length:Nat):Int)))>0))) with q14|q14
    ·skip
     refine y_fd q14 ?_
     refine y_ld q14 ?_
     refine y_cm q14 ?_
     refine y_mv q14 ?_
     refine aops_mid 4 (⟨92,[],[(4,.one (CV.ls c_Int a4)),(14,.one (.ptr 4 0)),(15,vI (W (((a4.length:Nat):Int) - ((((x3.getD s4_0 default).takes).length:Nat):Int)))),(68,vB (decide ((W (((a4.length:Nat):Int) - ((((x3.getD s4_0 default).takes).length:Nat):Int)))>0))),(76,vB ((a3.Op==32)||(a3.Op==30)))],[(4,some (.box (zaP (x3.getD s4_0 default))))]⟩:ASt) ?_ ?_
     ·rcases bool_or ((a3.Op==32)) with q15|q15
      ·skip
       iterate 3 refine np q15 ?_
       refine aops_yes rfl rfl rfl rfl q14 (zau rfl (by first|rfl|exact q15) rfl rfl) (aops_nil ?_)
       exact wq q15
      refine y_fd q15 ?_
      refine y_ld q15 ?_
      refine y_cm q15 ?_
      refine aops_yes rfl rfl rfl rfl q14 (zaz rfl (by first|rfl|exact q15) rfl rfl) (aops_nil ?_)
      exact wq q15
     refine s_py q14 (aops_nil ?_)
     exact wq q14
    iterate 4 refine np q14 ?_
    iterate 3 refine aops_und rfl rfl rfl rfl rfl ?_
    refine np q14 ?_
    refine s_pn q14 (aops_nil ?_)
    exact wq q14
   refine aops_nil ?_
   refine aw_if j6 (fun c16 j6=>?_) (fun c16 j6=>?_)
   ·refine aw_seq (aw_region ?_)
    iterate 2 refine s_sa ?_
    refine aops_nil ?_
    cases sj j6
    replace l4:=onS_r l4
    cases sj l4
    replace j2:=onS_r j2
    cases sj j2
    replace h:=onS_r h
    cases sj h
    exact aw_ret ⟨rfl,rv (rn (.cons o1 (.cons o1 .nil)))⟩
   refine aw_skip ?_
   obtain ⟨g17,j6⟩:=ifp_s j6
   obtain ⟨g18,j6⟩:=ifp_s j6
   obtain ⟨g19,j6⟩:=ifp_s j6
   refine aw_seq ?_
   apply aw_draw 14 [ad _,ad _,ad _,ad _,ad _,ad _,ad _,ad _,ad _,ad _,ad _,ad _,ad _,ad _] (by decide) rfl ?hk60x ?hf60x ?ho60x ?hr60x
   case ho60x =>
    iterate 3 refine ob [] (fun S hle hfr=>.inl ⟨w0,st_move (hle.e rfl) (hle.d rfl)⟩) ?_
    refine obn 7 (fun S hle hfr=>.inl ⟨w0,zit (f:=c_Int) (fun _=>rfl) (hle.e rfl) ⟨_,_,(hle.e rfl),(nn_eq g17)⟩ ⟨_,_,(hle.e rfl),(nn_eq g17)⟩ g18 (hle.d rfl)⟩) ?_
    refine o_fd 0 ?_
    refine o_ld 16 ?_
    refine obn 63 (fun S hle hfr=>.inl ⟨w0,zhl (f:=c_Int) (a4.take (((W (((a4.length:Nat):Int) - ((((x3.getD s4_0 default).takes).length:Nat):Int)))).toNat)) ((x3.getD s4_0 default).puts) (fun _=>rfl) (hle.e rfl) (.inl (hle.e rfl)) (by omega) (by omega) (hle.d rfl)⟩) ?_
    refine o_mv 0 ?_
    refine o_fd 0 ?_
    refine o_ld 256 ?_
    refine o_ln 768 ?_
    refine obn 1920 (fun S hle hfr=>.inl ⟨w0,ev_add (hle.e rfl) (hle.e rfl) (hle.d rfl) (wrap_W _)⟩) ?_
    refine o_cm 3968 ?_
    refine o_sa 127 ?_
    exact trivial
   case hk60x=>rfl
   case hf60x=>rfl
   refine s_sa (aops_nil ?_)
   cases sj j6
   replace l4:=onS_r l4
   cases sj l4
   replace j2:=onS_r j2
   cases sj j2
   replace h:=onS_r h
   cases sj h
   exact aw_ret ⟨rfl,rv (rn (.cons o1 (.cons o1 .nil)))⟩
  refine aw_exit ?_
  have e4:=sj l4
  subst e4
  replace j2:=onS_l j2
  show ∃_x:Unit,_=_∧Weak _ _
  exact ⟨(),sj j2,wk⟩
 refine aw_seq (aw_region (s_mv ?_))
 refine s_ln ?_
 refine s_cm (aops_nil ?_)
 refine aw_if j1 (fun c20 j1=>?_) (fun c20 j1=>?_)
 ·refine aw_region ?_
  iterate 2 refine s_mv ?_
  refine s_ln ?_
  refine zaa rfl (ev_sub rfl rfl rfl (wrap_W _)) ?_
  obtain ⟨g21,j1⟩:=ifp_s j1
  refine zaa rfl (zaf rfl rfl (idx_eq g21) (idx_lt g21) rfl rfl) (zaa rfl (zas rfl rfl rfl) (s_sa (aops_nil ?_)))
  show ∃_x:Int,_=_∧Weak _ _
  exact ⟨(a4.getD (((W (((a4.length:Nat):Int) - 1))).toNat) default),sj j1,wk⟩
 refine aw_seq (aw_region (s_fd ?_))
 refine s_ld ?_
 refine s_cm ?_
 refine s_mv ?_
 refine bo 4 ((a3.Op==15)||(a3.Op==16)) ?_
 refine s_mv ?_
 refine bo 4 (((a3.Op==15)||(a3.Op==16))||(a3.Op==31)) ?_
 refine aops_nil ?_
 refine aw_if j1 (fun c24 j1=>?_) (fun c24 j1=>?_)
 ·refine aw_seq (aw_region ?_)
  iterate 2 refine s_sa ?_
  refine aops_nil ?_
  cases sj j1
  replace h:=onS_r h
  cases sj h
  exact aw_ret ⟨rfl,rv (rn (.cons o1 (.cons o1 .nil)))⟩
 refine aw_skip ?_
 show ∃_x:Int,_=_∧Weak _ _
 exact ⟨0,sj j1,wk⟩
end Md
end Go.Proofs.YtclffekkjfhpdaaGreat

