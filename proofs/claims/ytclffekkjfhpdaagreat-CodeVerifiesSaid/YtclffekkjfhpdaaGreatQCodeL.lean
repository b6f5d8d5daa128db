import Derived.Test.YtclffekkjfhpdaaGreatQAbsSw
import Derived.Test.YtclffekkjfhpdaaGreatQMo
import Derived.Test.YtclffekkjfhpdaaGreatQTy
import Derived.Test.YtclffekkjfhpdaaGreatQAbsS
import Derived.Test.YtclffekkjfhpdaaGreatQCodeI
import Derived.Test.YtclffekkjfhpdaaGreatQCodeJ
import Derived.Test.YtclffekkjfhpdaaGreatQCodeN
import Derived.Test.YtclffekkjfhpdaaGreatQCodeH
namespace Go.Proofs.YtclffekkjfhpdaaGreat
open Go.ChangeShapes Go.WideShapes Go.RowKit
open Abs
set_option linter.unusedVariables false
set_option linter.unusedSimpArgs false
set_option maxRecDepth 10000
namespace Md
set_option maxHeartbeats 2000000 in
theorem zge {k:Nat} {r:Bool} (h:zdq k=some r):FnC Tryz.prog 4 [] [] (Det (vB r) []):=by
 unfold zdq at h
 refine fn_intro' 92 Tryz.func4 rfl rfl rfl (aw_seq (aw_region (s_sa ?_)))
 refine aops_nil (aw_seq (aw_region (zaa rfl (ev_build' (out:=[_,_,_,_,_]) rfl rfl rfl rfl rfl) ?_)))
 refine zaa rfl (ev_build' (out:=[_,_,_,_,_,_,_,_]) rfl rfl rfl rfl rfl) ?_
 refine zaa rfl (ev_build' (out:=[_,_,_,_,_,_,_,_]) rfl rfl rfl rfl rfl) ?_
 refine aops_weak (s':=(⟨92,[],[(0,vB false),(9,.agg [cI 1,cI 1,.val (Sv []),.val (.slice none 0 0),.val (.slice none 0 0)]),(10,.agg [cI 1,cI 0,cI 0,cI 1,cI 1,.val (Sv []),CV.ls c_Int [],CV.ls c_Str []]),(11,.agg [cI 32,cI 0,cI 0,cI 0,cI 0,.val (Sv []),CV.ls c_Int [],CV.ls c_Str []])],[]⟩:ASt)) wk ?_
 refine zaa rfl (zac (el:=lsEl c_Instr [(⟨1,0,0,(⟨1,1,([]:List UInt8),[],[]⟩:Value)⟩:Instr),(⟨32,0,0,(⟨0,0,([]:List UInt8),[],[]⟩:Value)⟩:Instr)]) 0 rfl rfl rfl rfl rfl rfl rfl rfl (lit_el c_Instr 8 [(⟨1,0,0,(⟨1,1,([]:List UInt8),[],[]⟩:Value)⟩:Instr),(⟨32,0,0,(⟨0,0,([]:List UInt8),[],[]⟩:Value)⟩:Instr)] (fun _=>rfl)) rfl) ?_
 refine zaa rfl (ev_build' (out:=[_,_,_,_,_]) rfl rfl rfl rfl rfl) (zae 0 rfl ?_)
 refine aops_weak (s':=(⟨92,[],[(0,vB false),(9,.agg [cI 1,cI 1,.val (Sv []),.val (.slice none 0 0),.val (.slice none 0 0)]),(10,.agg [cI 1,cI 0,cI 0,cI 1,cI 1,.val (Sv []),CV.ls c_Int [],CV.ls c_Str []]),(11,.agg [cI 32,cI 0,cI 0,cI 0,cI 0,.val (Sv []),CV.ls c_Int [],CV.ls c_Str []]),(12,.one (CV.ls c_Instr [(⟨1,0,0,(⟨1,1,([]:List UInt8),[],[]⟩:Value)⟩:Instr),(⟨32,0,0,(⟨0,0,([]:List UInt8),[],[]⟩:Value)⟩:Instr)])),(13,.agg [.val (Sv ([109]:List UInt8)),CV.ls c_Int [],cI 1,CV.ls c_Int [],CV.ls c_Instr [(⟨1,0,0,(⟨1,1,([]:List UInt8),[],[]⟩:Value)⟩:Instr),(⟨32,0,0,(⟨0,0,([]:List UInt8),[],[]⟩:Value)⟩:Instr)]])],[]⟩:ASt)) wk ?_
 refine zaa rfl (zac (el:=lsEl zad [(⟨([109]:List UInt8),[],1,[],[(⟨1,0,0,(⟨1,1,([]:List UInt8),[],[]⟩:Value)⟩:Instr),(⟨32,0,0,(⟨0,0,([]:List UInt8),[],[]⟩:Value)⟩:Instr)]⟩:CodeMethod)]) 1 rfl rfl rfl rfl rfl rfl rfl rfl (lit_el zad 5 [(⟨([109]:List UInt8),[],1,[],[(⟨1,0,0,(⟨1,1,([]:List UInt8),[],[]⟩:Value)⟩:Instr),(⟨32,0,0,(⟨0,0,([]:List UInt8),[],[]⟩:Value)⟩:Instr)]⟩:CodeMethod)] (fun _=>rfl)) rfl) ?_
 refine zaa rfl (ev_build' (out:=[_,_,_]) rfl rfl rfl rfl rfl) (zae 1 rfl ?_)
 refine aops_weak (s':=(⟨92,[],[(0,vB false),(9,.agg [cI 1,cI 1,.val (Sv []),.val (.slice none 0 0),.val (.slice none 0 0)]),(10,.agg [cI 1,cI 0,cI 0,cI 1,cI 1,.val (Sv []),CV.ls c_Int [],CV.ls c_Str []]),(11,.agg [cI 32,cI 0,cI 0,cI 0,cI 0,.val (Sv []),CV.ls c_Int [],CV.ls c_Str []]),(12,.one (CV.ls c_Instr [(⟨1,0,0,(⟨1,1,([]:List UInt8),[],[]⟩:Value)⟩:Instr),(⟨32,0,0,(⟨0,0,([]:List UInt8),[],[]⟩:Value)⟩:Instr)])),(13,.agg [.val (Sv ([109]:List UInt8)),CV.ls c_Int [],cI 1,CV.ls c_Int [],CV.ls c_Instr [(⟨1,0,0,(⟨1,1,([]:List UInt8),[],[]⟩:Value)⟩:Instr),(⟨32,0,0,(⟨0,0,([]:List UInt8),[],[]⟩:Value)⟩:Instr)]]),(14,.one (CV.ls zad [(⟨([109]:List UInt8),[],1,[],[(⟨1,0,0,(⟨1,1,([]:List UInt8),[],[]⟩:Value)⟩:Instr),(⟨32,0,0,(⟨0,0,([]:List UInt8),[],[]⟩:Value)⟩:Instr)]⟩:CodeMethod)])),(15,.agg [.val (Sv ([65]:List UInt8)),CV.ls c_Field [],CV.ls zad [(⟨([109]:List UInt8),[],1,[],[(⟨1,0,0,(⟨1,1,([]:List UInt8),[],[]⟩:Value)⟩:Instr),(⟨32,0,0,(⟨0,0,([]:List UInt8),[],[]⟩:Value)⟩:Instr)]⟩:CodeMethod)]])],[]⟩:ASt)) wk ?_
 refine zaa rfl (zac (el:=lsEl zab [(⟨([65]:List UInt8),[],[(⟨([109]:List UInt8),[],1,[],[(⟨1,0,0,(⟨1,1,([]:List UInt8),[],[]⟩:Value)⟩:Instr),(⟨32,0,0,(⟨0,0,([]:List UInt8),[],[]⟩:Value)⟩:Instr)]⟩:CodeMethod)]⟩:CodeType)]) 2 rfl rfl rfl rfl rfl rfl rfl rfl (lit_el zab 3 [(⟨([65]:List UInt8),[],[(⟨([109]:List UInt8),[],1,[],[(⟨1,0,0,(⟨1,1,([]:List UInt8),[],[]⟩:Value)⟩:Instr),(⟨32,0,0,(⟨0,0,([]:List UInt8),[],[]⟩:Value)⟩:Instr)]⟩:CodeMethod)]⟩:CodeType)] (fun _=>rfl)) rfl) ?_
 refine zaa rfl (ev_build' (out:=[_]) rfl rfl rfl rfl rfl) (zaa rfl (st_alloc (cs:=[.val (.slice none 0 0)]) 3 rfl rfl rfl rfl rfl) (s_st [_] ?_))
 refine aops_nil (aw_seq (aw_region (zaa rfl (ev_build' (out:=[_,_,_,_,_,_,_,_]) rfl rfl rfl rfl rfl) ?_)))
 refine aops_weak (s':=(⟨92,[],[(0,vB false),(1,.one (.ptr 3 0)),(9,.agg [cI 1,cI 1,.val (Sv []),.val (.slice none 0 0),.val (.slice none 0 0)]),(10,.agg [cI 1,cI 0,cI 0,cI 1,cI 1,.val (Sv []),CV.ls c_Int [],CV.ls c_Str []]),(11,.agg [cI 32,cI 0,cI 0,cI 0,cI 0,.val (Sv []),CV.ls c_Int [],CV.ls c_Str []]),(12,.one (CV.ls c_Instr [(⟨1,0,0,(⟨1,1,([]:List UInt8),[],[]⟩:Value)⟩:Instr),(⟨32,0,0,(⟨0,0,([]:List UInt8),[],[]⟩:Value)⟩:Instr)])),(13,.agg [.val (Sv ([109]:List UInt8)),CV.ls c_Int [],cI 1,CV.ls c_Int [],CV.ls c_Instr [(⟨1,0,0,(⟨1,1,([]:List UInt8),[],[]⟩:Value)⟩:Instr),(⟨32,0,0,(⟨0,0,([]:List UInt8),[],[]⟩:Value)⟩:Instr)]]),(14,.one (CV.ls zad [(⟨([109]:List UInt8),[],1,[],[(⟨1,0,0,(⟨1,1,([]:List UInt8),[],[]⟩:Value)⟩:Instr),(⟨32,0,0,(⟨0,0,([]:List UInt8),[],[]⟩:Value)⟩:Instr)]⟩:CodeMethod)])),(15,.agg [.val (Sv ([65]:List UInt8)),CV.ls c_Field [],CV.ls zad [(⟨([109]:List UInt8),[],1,[],[(⟨1,0,0,(⟨1,1,([]:List UInt8),[],[]⟩:Value)⟩:Instr),(⟨32,0,0,(⟨0,0,([]:List UInt8),[],[]⟩:Value)⟩:Instr)]⟩:CodeMethod)]]),(16,.one (.own 2)),(17,.agg [.own 2]),(18,.agg [cI 32,cI 0,cI 0,cI 0,cI 0,.val (Sv []),CV.ls c_Int [],CV.ls c_Str []])],[(2,some (.row 44 3 [(⟨([65]:List UInt8),[],[(⟨([109]:List UInt8),[],1,[],[(⟨1,0,0,(⟨1,1,([]:List UInt8),[],[]⟩:Value)⟩:Instr),(⟨32,0,0,(⟨0,0,([]:List UInt8),[],[]⟩:Value)⟩:Instr)]⟩:CodeMethod)]⟩:CodeType)].length (lsEl zab [(⟨([65]:List UInt8),[],[(⟨([109]:List UInt8),[],1,[],[(⟨1,0,0,(⟨1,1,([]:List UInt8),[],[]⟩:Value)⟩:Instr),(⟨32,0,0,(⟨0,0,([]:List UInt8),[],[]⟩:Value)⟩:Instr)]⟩:CodeMethod)]⟩:CodeType)]))),(3,some (.box [.own 2]))]⟩:ASt)) wk ?_
 refine zaa rfl (zac (el:=lsEl c_Instr [(⟨32,0,0,(⟨0,0,([]:List UInt8),[],[]⟩:Value)⟩:Instr)]) 4 rfl rfl rfl rfl rfl rfl rfl rfl (lit_el c_Instr 8 [(⟨32,0,0,(⟨0,0,([]:List UInt8),[],[]⟩:Value)⟩:Instr)] (fun _=>rfl)) rfl) ?_
 refine zaa rfl (ev_build' (out:=[_,_,_,_,_]) rfl rfl rfl rfl rfl) (zae 4 rfl ?_)
 refine aops_weak (s':=(⟨92,[],[(0,vB false),(1,.one (.ptr 3 0)),(9,.agg [cI 1,cI 1,.val (Sv []),.val (.slice none 0 0),.val (.slice none 0 0)]),(10,.agg [cI 1,cI 0,cI 0,cI 1,cI 1,.val (Sv []),CV.ls c_Int [],CV.ls c_Str []]),(11,.agg [cI 32,cI 0,cI 0,cI 0,cI 0,.val (Sv []),CV.ls c_Int [],CV.ls c_Str []]),(12,.one (CV.ls c_Instr [(⟨1,0,0,(⟨1,1,([]:List UInt8),[],[]⟩:Value)⟩:Instr),(⟨32,0,0,(⟨0,0,([]:List UInt8),[],[]⟩:Value)⟩:Instr)])),(13,.agg [.val (Sv ([109]:List UInt8)),CV.ls c_Int [],cI 1,CV.ls c_Int [],CV.ls c_Instr [(⟨1,0,0,(⟨1,1,([]:List UInt8),[],[]⟩:Value)⟩:Instr),(⟨32,0,0,(⟨0,0,([]:List UInt8),[],[]⟩:Value)⟩:Instr)]]),(14,.one (CV.ls zad [(⟨([109]:List UInt8),[],1,[],[(⟨1,0,0,(⟨1,1,([]:List UInt8),[],[]⟩:Value)⟩:Instr),(⟨32,0,0,(⟨0,0,([]:List UInt8),[],[]⟩:Value)⟩:Instr)]⟩:CodeMethod)])),(15,.agg [.val (Sv ([65]:List UInt8)),CV.ls c_Field [],CV.ls zad [(⟨([109]:List UInt8),[],1,[],[(⟨1,0,0,(⟨1,1,([]:List UInt8),[],[]⟩:Value)⟩:Instr),(⟨32,0,0,(⟨0,0,([]:List UInt8),[],[]⟩:Value)⟩:Instr)]⟩:CodeMethod)]]),(16,.one (.own 2)),(17,.agg [.own 2]),(18,.agg [cI 32,cI 0,cI 0,cI 0,cI 0,.val (Sv []),CV.ls c_Int [],CV.ls c_Str []]),(19,.one (CV.ls c_Instr [(⟨32,0,0,(⟨0,0,([]:List UInt8),[],[]⟩:Value)⟩:Instr)])),(20,.agg [.val (Sv ([109]:List UInt8)),CV.ls c_Int [],cI 1,CV.ls c_Int [],CV.ls c_Instr [(⟨32,0,0,(⟨0,0,([]:List UInt8),[],[]⟩:Value)⟩:Instr)]])],[(2,some (.row 44 3 [(⟨([65]:List UInt8),[],[(⟨([109]:List UInt8),[],1,[],[(⟨1,0,0,(⟨1,1,([]:List UInt8),[],[]⟩:Value)⟩:Instr),(⟨32,0,0,(⟨0,0,([]:List UInt8),[],[]⟩:Value)⟩:Instr)]⟩:CodeMethod)]⟩:CodeType)].length (lsEl zab [(⟨([65]:List UInt8),[],[(⟨([109]:List UInt8),[],1,[],[(⟨1,0,0,(⟨1,1,([]:List UInt8),[],[]⟩:Value)⟩:Instr),(⟨32,0,0,(⟨0,0,([]:List UInt8),[],[]⟩:Value)⟩:Instr)]⟩:CodeMethod)]⟩:CodeType)]))),(3,some (.box [.own 2]))]⟩:ASt)) wk ?_
 refine zaa rfl (zac (el:=lsEl zad [(⟨([109]:List UInt8),[],1,[],[(⟨32,0,0,(⟨0,0,([]:List UInt8),[],[]⟩:Value)⟩:Instr)]⟩:CodeMethod)]) 5 rfl rfl rfl rfl rfl rfl rfl rfl (lit_el zad 5 [(⟨([109]:List UInt8),[],1,[],[(⟨32,0,0,(⟨0,0,([]:List UInt8),[],[]⟩:Value)⟩:Instr)]⟩:CodeMethod)] (fun _=>rfl)) rfl) ?_
 refine zaa rfl (ev_build' (out:=[_,_,_]) rfl rfl rfl rfl rfl) (zae 5 rfl ?_)
 refine aops_weak (s':=(⟨92,[],[(0,vB false),(1,.one (.ptr 3 0)),(9,.agg [cI 1,cI 1,.val (Sv []),.val (.slice none 0 0),.val (.slice none 0 0)]),(10,.agg [cI 1,cI 0,cI 0,cI 1,cI 1,.val (Sv []),CV.ls c_Int [],CV.ls c_Str []]),(11,.agg [cI 32,cI 0,cI 0,cI 0,cI 0,.val (Sv []),CV.ls c_Int [],CV.ls c_Str []]),(12,.one (CV.ls c_Instr [(⟨1,0,0,(⟨1,1,([]:List UInt8),[],[]⟩:Value)⟩:Instr),(⟨32,0,0,(⟨0,0,([]:List UInt8),[],[]⟩:Value)⟩:Instr)])),(13,.agg [.val (Sv ([109]:List UInt8)),CV.ls c_Int [],cI 1,CV.ls c_Int [],CV.ls c_Instr [(⟨1,0,0,(⟨1,1,([]:List UInt8),[],[]⟩:Value)⟩:Instr),(⟨32,0,0,(⟨0,0,([]:List UInt8),[],[]⟩:Value)⟩:Instr)]]),(14,.one (CV.ls zad [(⟨([109]:List UInt8),[],1,[],[(⟨1,0,0,(⟨1,1,([]:List UInt8),[],[]⟩:Value)⟩:Instr),(⟨32,0,0,(⟨0,0,([]:List UInt8),[],[]⟩:Value)⟩:Instr)]⟩:CodeMethod)])),(15,.agg [.val (Sv ([65]:List UInt8)),CV.ls c_Field [],CV.ls zad [(⟨([109]:List UInt8),[],1,[],[(⟨1,0,0,(⟨1,1,([]:List UInt8),[],[]⟩:Value)⟩:Instr),(⟨32,0,0,(⟨0,0,([]:List UInt8),[],[]⟩:Value)⟩:Instr)]⟩:CodeMethod)]]),(16,.one (.own 2)),(17,.agg [.own 2]),(18,.agg [cI 32,cI 0,cI 0,cI 0,cI 0,.val (Sv []),CV.ls c_Int [],CV.ls c_Str []]),(19,.one (CV.ls c_Instr [(⟨32,0,0,(⟨0,0,([]:List UInt8),[],[]⟩:Value)⟩:Instr)])),(20,.agg [.val (Sv ([109]:List UInt8)),CV.ls c_Int [],cI 1,CV.ls c_Int [],CV.ls c_Instr [(⟨32,0,0,(⟨0,0,([]:List UInt8),[],[]⟩:Value)⟩:Instr)]]),(21,.one (CV.ls zad [(⟨([109]:List UInt8),[],1,[],[(⟨32,0,0,(⟨0,0,([]:List UInt8),[],[]⟩:Value)⟩:Instr)]⟩:CodeMethod)])),(22,.agg [.val (Sv ([65]:List UInt8)),CV.ls c_Field [],CV.ls zad [(⟨([109]:List UInt8),[],1,[],[(⟨32,0,0,(⟨0,0,([]:List UInt8),[],[]⟩:Value)⟩:Instr)]⟩:CodeMethod)]])],[(2,some (.row 44 3 [(⟨([65]:List UInt8),[],[(⟨([109]:List UInt8),[],1,[],[(⟨1,0,0,(⟨1,1,([]:List UInt8),[],[]⟩:Value)⟩:Instr),(⟨32,0,0,(⟨0,0,([]:List UInt8),[],[]⟩:Value)⟩:Instr)]⟩:CodeMethod)]⟩:CodeType)].length (lsEl zab [(⟨([65]:List UInt8),[],[(⟨([109]:List UInt8),[],1,[],[(⟨1,0,0,(⟨1,1,([]:List UInt8),[],[]⟩:Value)⟩:Instr),(⟨32,0,0,(⟨0,0,([]:List UInt8),[],[]⟩:Value)⟩:Instr)]⟩:CodeMethod)]⟩:CodeType)]))),(3,some (.box [.own 2]))]⟩:ASt)) wk ?_
 refine zaa rfl (zac (el:=lsEl zab [(⟨([65]:List UInt8),[],[(⟨([109]:List UInt8),[],1,[],[(⟨32,0,0,(⟨0,0,([]:List UInt8),[],[]⟩:Value)⟩:Instr)]⟩:CodeMethod)]⟩:CodeType)]) 6 rfl rfl rfl rfl rfl rfl rfl rfl (lit_el zab 3 [(⟨([65]:List UInt8),[],[(⟨([109]:List UInt8),[],1,[],[(⟨32,0,0,(⟨0,0,([]:List UInt8),[],[]⟩:Value)⟩:Instr)]⟩:CodeMethod)]⟩:CodeType)] (fun _=>rfl)) rfl) ?_
 refine zaa rfl (ev_build' (out:=[_]) rfl rfl rfl rfl rfl) (zaa rfl (st_alloc (cs:=[.val (.slice none 0 0)]) 7 rfl rfl rfl rfl rfl) (s_st [_] ?_))
 refine aops_nil (aw_seq (aw_region (s_ls [_] ?_)))
 obtain ⟨x1,hx1,h⟩:=bind_s h
 refine zae 2 rfl (zaa rfl (st_call_r (r':=.one (.own 8)) 8 rfl (zfO hx1) rfl [] ai rfl rfl rfl (.inl rfl) rfl rfl) ?_)
 refine zaa rfl (zac (el:=lsEl byC [(7:UInt8)]) 9 rfl rfl rfl rfl rfl rfl rfl rfl (lit_el byC 1 [(7:UInt8)] (fun _=>rfl)) rfl) ?_
 obtain ⟨g2,h⟩:=ifp_s h
 refine zaa rfl (st_app_ls (f:=byC) x1 [(7:UInt8)] (fun _=>rfl) rfl rfl (.inr ⟨_,_,rfl,rfl⟩) (by omega) (by omega) rfl) ?_
 obtain ⟨x3,hx3,h⟩:=bind_s h
 refine zae 8 rfl (zaa rfl (ev_call_v (zhc hx3) rfl [] ai rfl rfl rfl (.inl rfl) rfl) (s_mt ?_))
 iterate 3 refine s_ex ?_
 refine zaa rfl (st_alloc (cs:=[.val (.slice none 0 0)]) 10 rfl rfl rfl rfl rfl) (s_st [_] ?_)
 iterate 2 refine s_sa ?_
 refine aops_nil (aw_seq (aw_region (s_ls [_] ?_)))
 obtain ⟨x4,hx4,h⟩:=bind_s h
 refine zaa rfl (st_call_r (r':=.one (.own 11)) 11 rfl (zgb hx4) rfl [] ai rfl rfl rfl (.inl rfl) rfl rfl) (s_sa ?_)
 refine aops_nil (aw_seq (aw_region (s_ls [_] ?_)))
 obtain ⟨x5,hx5,h⟩:=bind_s h
 refine zaa rfl (ev_call_v (zgF hx5) rfl [] ai rfl rfl rfl (.inl rfl) rfl) (s_mt ?_)
 iterate 2 refine s_ex ?_
 iterate 2 refine s_sa ?_
 refine aops_nil (aw_seq (aw_region (s_ls [_] ?_)))
 obtain ⟨x6,hx6,h⟩:=bind_s h
 refine zaa rfl (ev_call_v (zdn hx6) rfl [] ai rfl rfl rfl (.inl rfl) rfl) (s_cm ?_)
 refine s_mv ?_
 rcases co h with ⟨q7,h⟩|⟨q7,h⟩
 ·refine aops_yes rfl rfl rfl rfl q7 (ev_loads (ds:=[_]) rfl rfl rfl rfl rfl) ?_
  obtain ⟨x8,hx8,h⟩:=bind_s h
  refine zae 6 rfl (aops_yes rfl rfl rfl rfl q7 (ev_call_v (zdn hx8) rfl [] ai rfl rfl rfl (.inl rfl) rfl) (y_cm q7 ?_))
  refine s_py q7 ?_
  refine s_mv ?_
  obtain ⟨o9,j9,h⟩:=bind_s h
  refine aops_cutE 6 o9 (fun x9=>(⟨92,[],[(0,vB false),(1,.one (.ptr 3 0)),(2,.one (.ptr 7 0)),(3,.one (.ptr 10 0)),(4,vI x3.2.1),(5,vI x3.2.2),(6,.one (.own 11)),(8,vB x5.2),(55,vB x9)],[(3,some (.box [CV.ls zab [(⟨([65]:List UInt8),[],[(⟨([109]:List UInt8),[],1,[],[(⟨1,0,0,(⟨1,1,([]:List UInt8),[],[]⟩:Value)⟩:Instr),(⟨32,0,0,(⟨0,0,([]:List UInt8),[],[]⟩:Value)⟩:Instr)]⟩:CodeMethod)]⟩:CodeType)]])),(7,some (.box [CV.ls zab [(⟨([65]:List UInt8),[],[(⟨([109]:List UInt8),[],1,[],[(⟨32,0,0,(⟨0,0,([]:List UInt8),[],[]⟩:Value)⟩:Instr)]⟩:CodeMethod)]⟩:CodeType)]])),(10,some (.box [CV.ls zab x3.1.Types])),(11,some (.row 3 1 x4.length (lsEl c_Int x4)))]⟩:ASt)) ?_ ?_
  ·refine s_mv ?_
   refine bo 3 (o9&&(x3.2.2==0)) ?_
   refine s_mv ?_
   obtain ⟨o11,j11,h⟩:=bind_s h
   refine aops_cutE 6 o11 (fun x11=>(⟨92,[],[(0,vB false),(1,.one (.ptr 3 0)),(2,.one (.ptr 7 0)),(3,.one (.ptr 10 0)),(6,.one (.own 11)),(8,vB x5.2),(66,vB x11)],[(3,some (.box [CV.ls zab [(⟨([65]:List UInt8),[],[(⟨([109]:List UInt8),[],1,[],[(⟨1,0,0,(⟨1,1,([]:List UInt8),[],[]⟩:Value)⟩:Instr),(⟨32,0,0,(⟨0,0,([]:List UInt8),[],[]⟩:Value)⟩:Instr)]⟩:CodeMethod)]⟩:CodeType)]])),(7,some (.box [CV.ls zab [(⟨([65]:List UInt8),[],[(⟨([109]:List UInt8),[],1,[],[(⟨32,0,0,(⟨0,0,([]:List UInt8),[],[]⟩:Value)⟩:Instr)]⟩:CodeMethod)]⟩:CodeType)]])),(10,some (.box [CV.ls zab x3.1.Types])),(11,some (.row 3 1 x4.length (lsEl c_Int x4)))]⟩:ASt)) ?_ ?_
   ·refine s_mv ?_
    obtain ⟨o12,j12,h⟩:=bind_s h
    refine aops_cutE 4 o12 (fun x12=>(⟨92,[],[(0,vB false),(1,.one (.ptr 3 0)),(2,.one (.ptr 7 0)),(6,.one (.own 11)),(8,vB x5.2),(71,vB x12)],[(3,some (.box [CV.ls zab [(⟨([65]:List UInt8),[],[(⟨([109]:List UInt8),[],1,[],[(⟨1,0,0,(⟨1,1,([]:List UInt8),[],[]⟩:Value)⟩:Instr),(⟨32,0,0,(⟨0,0,([]:List UInt8),[],[]⟩:Value)⟩:Instr)]⟩:CodeMethod)]⟩:CodeType)]])),(7,some (.box [CV.ls zab [(⟨([65]:List UInt8),[],[(⟨([109]:List UInt8),[],1,[],[(⟨32,0,0,(⟨0,0,([]:List UInt8),[],[]⟩:Value)⟩:Instr)]⟩:CodeMethod)]⟩:CodeType)]])),(11,some (.row 3 1 x4.length (lsEl c_Int x4)))]⟩:ASt)) ?_ ?_
    ·refine s_mv ?_
     obtain ⟨o13,j13,h⟩:=bind_s h
     refine aops_cutE 5 o13 (fun x13=>(⟨92,[],[(0,vB false),(6,.one (.own 11)),(8,vB x5.2),(77,vB x13)],[(11,some (.row 3 1 x4.length (lsEl c_Int x4)))]⟩:ASt)) ?_ ?_
     ·refine s_mv ?_
      refine aops_mid 4 (⟨92,[],[(0,vB false),(6,.one (.own 11)),(8,vB x5.2),(82,vB (o13&&(((x4.length:Nat):Int)==2)))],[(11,some (.row 3 1 x4.length (lsEl c_Int x4)))]⟩:ASt) ?_ ?_
      ·rcases bool_or (o13) with q14|q14
       ·skip
        refine y_mv q14 ?_
        refine aops_yes rfl rfl rfl rfl q14 (zfk rfl rfl rfl) (y_cm q14 ?_)
        refine s_py q14 (aops_nil ?_)
        exact wq q14
       iterate 3 refine np q14 ?_
       refine s_pn q14 (aops_nil ?_)
       exact wq q14
      refine s_mv ?_
      obtain ⟨o15,j15,h⟩:=bind_s h
      refine aops_cutE 5 o15 (fun x15=>(⟨92,[],[(0,vB false),(8,vB x5.2),(88,vB x15)],[]⟩:ASt)) ?_ ?_
      ·refine s_mv ?_
       refine bo 2 (o15&&x5.2) ?_
       refine s_sa (aops_nil ?_)
       cases sj h
       exact aw_ret ⟨rfl,rv r1⟩
      rcases co j15 with ⟨q15,j15⟩|⟨q15,j15⟩
      ·refine y_mv q15 ?_
       obtain ⟨g17,j15⟩:=ifp_s j15
       refine zae 11 rfl (aops_yes rfl rfl rfl rfl q15 (zaf rfl rfl rfl g17 rfl rfl) (aops_yes rfl rfl rfl rfl q15 (zas rfl rfl rfl) (y_cm q15 ?_)))
       refine s_py q15 (aops_nil ?_)
       exact jx j15 wk
      iterate 4 refine np q15 ?_
      refine s_pn q15 (aops_nil ?_)
      exact jx j15 wk
     rcases co j13 with ⟨q13,j13⟩|⟨q13,j13⟩
     ·refine aops_yes rfl rfl rfl rfl q13 (ev_loads (ds:=[_]) rfl rfl rfl rfl rfl) (aops_yes rfl rfl rfl rfl q13 (ev_loads (ds:=[_]) rfl rfl rfl rfl rfl) ?_)
      obtain ⟨x18,hx18,j13⟩:=bind_s j13
      refine aops_yes rfl rfl rfl rfl q13 (ev_call_v (zgp hx18) rfl [] ai rfl rfl rfl (.inl rfl) rfl) (y_nt q13 ?_)
      refine s_py q13 (aops_nil ?_)
      exact jx j13 wk
     iterate 4 refine np q13 ?_
     refine s_pn q13 (aops_nil ?_)
     exact jx j13 wk
    rcases co j12 with ⟨q12,j12⟩|⟨q12,j12⟩
    ·refine aops_yes rfl rfl rfl rfl q12 (ev_loads (ds:=[_]) rfl rfl rfl rfl rfl) (aops_yes rfl rfl rfl rfl q12 (ev_loads (ds:=[_]) rfl rfl rfl rfl rfl) ?_)
     obtain ⟨x19,hx19,j12⟩:=bind_s j12
     refine aops_yes rfl rfl rfl rfl q12 (ev_call_v (zgp hx19) rfl [] ai rfl rfl rfl (.inl rfl) rfl) (s_py q12 (aops_nil ?_))
     exact jx j12 wk
    iterate 3 refine np q12 ?_
    refine s_pn q12 (aops_nil ?_)
    exact jx j12 wk
   rcases co j11 with ⟨q11,j11⟩|⟨q11,j11⟩
   ·refine y_mv q11 ?_
    refine aops_yes rfl rfl rfl rfl q11 (ev_loads (ds:=[_]) rfl rfl rfl rfl rfl) ?_
    obtain ⟨x20,hx20,j11⟩:=bind_s j11
    refine aops_yes rfl rfl rfl rfl q11 (st_call_r (r':=.one (.own 12)) 12 rfl (zfO hx20) rfl [] ai rfl rfl rfl (.inl rfl) rfl rfl) ?_
    refine aops_yes rfl rfl rfl rfl q11 (zfk rfl rfl rfl) (y_cm q11 ?_)
    refine s_py q11 (aops_nil ?_)
    exact jx j11 wk
   iterate 5 refine np q11 ?_
   refine s_pn q11 (aops_nil ?_)
   exact jx j11 wk
  rcases co j9 with ⟨q9,j9⟩|⟨q9,j9⟩
  ·refine aops_yes rfl rfl rfl rfl q9 (ev_build' (out:=[_,_,_]) rfl rfl rfl rfl rfl) ?_
   refine aops_weak (s':=(⟨92,[],[(0,vB false),(1,.one (.ptr 3 0)),(2,.one (.ptr 7 0)),(3,.one (.ptr 10 0)),(4,vI x3.2.1),(5,vI x3.2.2),(6,.one (.own 11)),(7,vI x5.1),(8,vB x5.2),(9,.agg [cI 1,cI 1,.val (Sv []),.val (.slice none 0 0),.val (.slice none 0 0)]),(10,.agg [cI 1,cI 0,cI 0,cI 1,cI 1,.val (Sv []),CV.ls c_Int [],CV.ls c_Str []]),(11,.agg [cI 32,cI 0,cI 0,cI 0,cI 0,.val (Sv []),CV.ls c_Int [],CV.ls c_Str []]),(12,.one (CV.ls c_Instr [(⟨1,0,0,(⟨1,1,([]:List UInt8),[],[]⟩:Value)⟩:Instr),(⟨32,0,0,(⟨0,0,([]:List UInt8),[],[]⟩:Value)⟩:Instr)])),(13,.agg [.val (Sv ([109]:List UInt8)),CV.ls c_Int [],cI 1,CV.ls c_Int [],CV.ls c_Instr [(⟨1,0,0,(⟨1,1,([]:List UInt8),[],[]⟩:Value)⟩:Instr),(⟨32,0,0,(⟨0,0,([]:List UInt8),[],[]⟩:Value)⟩:Instr)]]),(14,.one (CV.ls zad [(⟨([109]:List UInt8),[],1,[],[(⟨1,0,0,(⟨1,1,([]:List UInt8),[],[]⟩:Value)⟩:Instr),(⟨32,0,0,(⟨0,0,([]:List UInt8),[],[]⟩:Value)⟩:Instr)]⟩:CodeMethod)])),(15,.agg [.val (Sv ([65]:List UInt8)),CV.ls c_Field [],CV.ls zad [(⟨([109]:List UInt8),[],1,[],[(⟨1,0,0,(⟨1,1,([]:List UInt8),[],[]⟩:Value)⟩:Instr),(⟨32,0,0,(⟨0,0,([]:List UInt8),[],[]⟩:Value)⟩:Instr)]⟩:CodeMethod)]]),(16,.one (CV.ls zab [(⟨([65]:List UInt8),[],[(⟨([109]:List UInt8),[],1,[],[(⟨1,0,0,(⟨1,1,([]:List UInt8),[],[]⟩:Value)⟩:Instr),(⟨32,0,0,(⟨0,0,([]:List UInt8),[],[]⟩:Value)⟩:Instr)]⟩:CodeMethod)]⟩:CodeType)])),(17,.agg [CV.ls zab [(⟨([65]:List UInt8),[],[(⟨([109]:List UInt8),[],1,[],[(⟨1,0,0,(⟨1,1,([]:List UInt8),[],[]⟩:Value)⟩:Instr),(⟨32,0,0,(⟨0,0,([]:List UInt8),[],[]⟩:Value)⟩:Instr)]⟩:CodeMethod)]⟩:CodeType)]]),(18,.agg [cI 32,cI 0,cI 0,cI 0,cI 0,.val (Sv []),CV.ls c_Int [],CV.ls c_Str []]),(19,.one (CV.ls c_Instr [(⟨32,0,0,(⟨0,0,([]:List UInt8),[],[]⟩:Value)⟩:Instr)])),(20,.agg [.val (Sv ([109]:List UInt8)),CV.ls c_Int [],cI 1,CV.ls c_Int [],CV.ls c_Instr [(⟨32,0,0,(⟨0,0,([]:List UInt8),[],[]⟩:Value)⟩:Instr)]]),(21,.one (CV.ls zad [(⟨([109]:List UInt8),[],1,[],[(⟨32,0,0,(⟨0,0,([]:List UInt8),[],[]⟩:Value)⟩:Instr)]⟩:CodeMethod)])),(22,.agg [.val (Sv ([65]:List UInt8)),CV.ls c_Field [],CV.ls zad [(⟨([109]:List UInt8),[],1,[],[(⟨32,0,0,(⟨0,0,([]:List UInt8),[],[]⟩:Value)⟩:Instr)]⟩:CodeMethod)]]),(23,.one (CV.ls zab [(⟨([65]:List UInt8),[],[(⟨([109]:List UInt8),[],1,[],[(⟨32,0,0,(⟨0,0,([]:List UInt8),[],[]⟩:Value)⟩:Instr)]⟩:CodeMethod)]⟩:CodeType)])),(24,.agg [CV.ls zab [(⟨([65]:List UInt8),[],[(⟨([109]:List UInt8),[],1,[],[(⟨32,0,0,(⟨0,0,([]:List UInt8),[],[]⟩:Value)⟩:Instr)]⟩:CodeMethod)]⟩:CodeType)]]),(25,.tup [.agg [CV.ls zab x3.1.Types],vI x3.2.1,vI x3.2.2]),(26,.agg [CV.ls zab [(⟨([65]:List UInt8),[],[(⟨([109]:List UInt8),[],1,[],[(⟨1,0,0,(⟨1,1,([]:List UInt8),[],[]⟩:Value)⟩:Instr),(⟨32,0,0,(⟨0,0,([]:List UInt8),[],[]⟩:Value)⟩:Instr)]⟩:CodeMethod)]⟩:CodeType)]]),(27,.one (.any)),(28,.one (.own 9)),(29,.one (CV.ls byC (x1++[(7:UInt8)]))),(30,.tup [.agg [CV.ls zab x3.1.Types],vI x3.2.1,vI x3.2.2]),(31,.agg [CV.ls zab x3.1.Types]),(32,vI x3.2.1),(33,vI x3.2.2),(34,.agg [CV.ls zab [(⟨([65]:List UInt8),[],[(⟨([109]:List UInt8),[],1,[],[(⟨1,0,0,(⟨1,1,([]:List UInt8),[],[]⟩:Value)⟩:Instr),(⟨32,0,0,(⟨0,0,([]:List UInt8),[],[]⟩:Value)⟩:Instr)]⟩:CodeMethod)]⟩:CodeType)]]),(35,.one (.own 11)),(36,.tup [vI x5.1,vB x5.2]),(37,.agg [CV.ls zab [(⟨([65]:List UInt8),[],[(⟨([109]:List UInt8),[],1,[],[(⟨1,0,0,(⟨1,1,([]:List UInt8),[],[]⟩:Value)⟩:Instr),(⟨32,0,0,(⟨0,0,([]:List UInt8),[],[]⟩:Value)⟩:Instr)]⟩:CodeMethod)]⟩:CodeType)]]),(38,.tup [vI x5.1,vB x5.2]),(39,vI x5.1),(40,vB x5.2),(41,.agg [CV.ls zab [(⟨([65]:List UInt8),[],[(⟨([109]:List UInt8),[],1,[],[(⟨1,0,0,(⟨1,1,([]:List UInt8),[],[]⟩:Value)⟩:Instr),(⟨32,0,0,(⟨0,0,([]:List UInt8),[],[]⟩:Value)⟩:Instr)]⟩:CodeMethod)]⟩:CodeType)]]),(42,vI x6),(43,vB (x6==0)),(44,vB (x6==0)),(45,.agg [CV.ls zab [(⟨([65]:List UInt8),[],[(⟨([109]:List UInt8),[],1,[],[(⟨32,0,0,(⟨0,0,([]:List UInt8),[],[]⟩:Value)⟩:Instr)]⟩:CodeMethod)]⟩:CodeType)]]),(46,vI x8),(47,vB (x8==16)),(48,vB (x8==16)),(49,vB (x8==16)),(50,.agg [.val (Sv []),CV.ls c_Field [],CV.ls zad []])],[(3,some (.box [CV.ls zab [(⟨([65]:List UInt8),[],[(⟨([109]:List UInt8),[],1,[],[(⟨1,0,0,(⟨1,1,([]:List UInt8),[],[]⟩:Value)⟩:Instr),(⟨32,0,0,(⟨0,0,([]:List UInt8),[],[]⟩:Value)⟩:Instr)]⟩:CodeMethod)]⟩:CodeType)]])),(7,some (.box [CV.ls zab [(⟨([65]:List UInt8),[],[(⟨([109]:List UInt8),[],1,[],[(⟨32,0,0,(⟨0,0,([]:List UInt8),[],[]⟩:Value)⟩:Instr)]⟩:CodeMethod)]⟩:CodeType)]])),(9,some (.row 5 1 [(7:UInt8)].length (lsEl byC [(7:UInt8)]))),(10,some (.box [CV.ls zab x3.1.Types])),(11,some (.row 3 1 x4.length (lsEl c_Int x4)))]⟩:ASt)) wk ?_
   refine aops_yes rfl rfl rfl rfl q9 (zac (el:=lsEl zab [(⟨([]:List UInt8),[],[]⟩:CodeType)]) 12 rfl rfl rfl rfl rfl rfl rfl rfl (lit_el zab 3 [(⟨([]:List UInt8),[],[]⟩:CodeType)] (fun _=>rfl)) rfl) ?_
   refine aops_yes rfl rfl rfl rfl q9 (ev_build' (out:=[_]) rfl rfl rfl rfl rfl) ?_
   obtain ⟨x21,hx21,j9⟩:=bind_s j9
   refine zae 12 rfl (aops_yes rfl rfl rfl rfl q9 (ev_call_v (zdn hx21) rfl [] ai rfl rfl rfl (.inl rfl) rfl) (y_cm q9 ?_))
   refine s_py q9 (aops_nil ?_)
   exact jx j9 wk
  iterate 5 refine np q9 ?_
  refine s_pn q9 (aops_nil ?_)
  exact jx j9 wk
 iterate 3 refine np q7 ?_
 refine s_pn q7 ?_
 refine s_mv ?_
 iterate 5 refine aops_no rfl rfl rfl rfl rfl (by decide) ?_
 refine zaa rfl (zaz rfl (by first|rfl|exact rfl) rfl rfl) (s_mv ?_)
 refine aops_no rfl rfl rfl rfl rfl (by decide) (aops_no rfl rfl rfl rfl rfl (by decide) (zaa rfl (zaz rfl (by first|rfl|exact rfl) rfl rfl) (s_mv ?_)))
 iterate 5 refine aops_no rfl rfl rfl rfl rfl (by decide) ?_
 refine zaa rfl (zaz rfl (by first|rfl|exact rfl) rfl rfl) (s_mv ?_)
 iterate 3 refine aops_no rfl rfl rfl rfl rfl (by decide) ?_
 refine zaa rfl (zaz rfl (by first|rfl|exact rfl) rfl rfl) (s_mv ?_)
 iterate 4 refine aops_no rfl rfl rfl rfl rfl (by decide) ?_
 refine zaa rfl (zaz rfl (by first|rfl|exact rfl) rfl rfl) (s_mv ?_)
 iterate 3 refine aops_no rfl rfl rfl rfl rfl (by decide) ?_
 refine zaa rfl (zaz rfl (by first|rfl|exact rfl) rfl rfl) (s_mv ?_)
 iterate 4 refine aops_no rfl rfl rfl rfl rfl (by decide) ?_
 refine zaa rfl (zaz rfl (by first|rfl|exact rfl) rfl rfl) (s_mv ?_)
 refine aops_no rfl rfl rfl rfl rfl (by decide) (zaa rfl (zaz rfl (by first|rfl|exact rfl) rfl rfl) (s_sa (aops_nil ?_)))
 cases sj h
 exact aw_ret ⟨rfl,rv r1⟩
end Md
end Go.Proofs.YtclffekkjfhpdaaGreat

