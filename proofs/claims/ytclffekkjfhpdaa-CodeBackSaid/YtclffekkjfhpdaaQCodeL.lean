import Derived.Test.YtclffekkjfhpdaaQMo
import Derived.Test.YtclffekkjfhpdaaQTy
import Derived.Test.YtclffekkjfhpdaaQAbsS
import Derived.Test.YtclffekkjfhpdaaQCodeI
import Derived.Test.YtclffekkjfhpdaaQCodeJ
import Derived.Test.YtclffekkjfhpdaaQCodeN
import Derived.Test.YtclffekkjfhpdaaQCodeH
namespace Go.Proofs.Ytclffekkjfhpdaa
open Go.ChangeShapes Go.WideShapes Go.RowKit
open Abs
set_option linter.unusedVariables false
set_option linter.unusedSimpArgs false
set_option maxRecDepth 10000
namespace Md
set_option maxHeartbeats 2000000 in
theorem actorgridlaw20_awake_fn (k : Nat) (r : Bool) (h : actorgridlaw20_awake k = some r) : FnC Try.prog 6 [] [] (Det (vB r) []) := by
  unfold actorgridlaw20_awake at h
  refine fn_intro' 92 Try.func6 rfl rfl rfl (aw_seq (aw_region (s_sa ?_)))
  refine aops_nil (aw_seq (aw_region (aops_step1 rfl (ev_build' (out := [_, _, _, _, _]) rfl rfl rfl rfl rfl) ?_)))
  refine aops_step1 rfl (ev_build' (out := [_, _, _, _, _, _, _, _]) rfl rfl rfl rfl rfl) ?_
  refine aops_step1 rfl (ev_build' (out := [_, _, _, _, _, _, _, _]) rfl rfl rfl rfl rfl) ?_
  refine aops_weak (s' := (⟨92, [], [(0, vB false), (9, .agg [cI 1, cI 1, .val (Sv []), .val (.slice none 0 0), .val (.slice none 0 0)]), (10, .agg [cI 1, cI 0, cI 0, cI 1, cI 1, .val (Sv []), CV.ls c_Int [], CV.ls c_Str []]), (11, .agg [cI 32, cI 0, cI 0, cI 0, cI 0, .val (Sv []), CV.ls c_Int [], CV.ls c_Str []])], []⟩ : ASt)) wk ?_
  refine aops_step1 rfl (st_slice_lit (el := lsEl c_Instr [(⟨1, 0, 0, (⟨1, 1, ([] : List UInt8), [], []⟩ : Value)⟩ : Instr), (⟨32, 0, 0, (⟨0, 0, ([] : List UInt8), [], []⟩ : Value)⟩ : Instr)]) 0 rfl rfl rfl rfl rfl rfl rfl rfl (lit_el c_Instr 8 [(⟨1, 0, 0, (⟨1, 1, ([] : List UInt8), [], []⟩ : Value)⟩ : Instr), (⟨32, 0, 0, (⟨0, 0, ([] : List UInt8), [], []⟩ : Value)⟩ : Instr)] (fun _ => rfl)) rfl) ?_
  refine aops_step1 rfl (ev_build' (out := [_, _, _, _, _]) rfl rfl rfl rfl rfl) (aops_freeze 0 rfl ?_)
  refine aops_weak (s' := (⟨92, [], [(0, vB false), (9, .agg [cI 1, cI 1, .val (Sv []), .val (.slice none 0 0), .val (.slice none 0 0)]), (10, .agg [cI 1, cI 0, cI 0, cI 1, cI 1, .val (Sv []), CV.ls c_Int [], CV.ls c_Str []]), (11, .agg [cI 32, cI 0, cI 0, cI 0, cI 0, .val (Sv []), CV.ls c_Int [], CV.ls c_Str []]), (12, .one (CV.ls c_Instr [(⟨1, 0, 0, (⟨1, 1, ([] : List UInt8), [], []⟩ : Value)⟩ : Instr), (⟨32, 0, 0, (⟨0, 0, ([] : List UInt8), [], []⟩ : Value)⟩ : Instr)])), (13, .agg [.val (Sv ([109] : List UInt8)), CV.ls c_Int [], cI 1, CV.ls c_Int [], CV.ls c_Instr [(⟨1, 0, 0, (⟨1, 1, ([] : List UInt8), [], []⟩ : Value)⟩ : Instr), (⟨32, 0, 0, (⟨0, 0, ([] : List UInt8), [], []⟩ : Value)⟩ : Instr)]])], []⟩ : ASt)) wk ?_
  refine aops_step1 rfl (st_slice_lit (el := lsEl c_CodeMethod [(⟨([109] : List UInt8), [], 1, [], [(⟨1, 0, 0, (⟨1, 1, ([] : List UInt8), [], []⟩ : Value)⟩ : Instr), (⟨32, 0, 0, (⟨0, 0, ([] : List UInt8), [], []⟩ : Value)⟩ : Instr)]⟩ : CodeMethod)]) 1 rfl rfl rfl rfl rfl rfl rfl rfl (lit_el c_CodeMethod 5 [(⟨([109] : List UInt8), [], 1, [], [(⟨1, 0, 0, (⟨1, 1, ([] : List UInt8), [], []⟩ : Value)⟩ : Instr), (⟨32, 0, 0, (⟨0, 0, ([] : List UInt8), [], []⟩ : Value)⟩ : Instr)]⟩ : CodeMethod)] (fun _ => rfl)) rfl) ?_
  refine aops_step1 rfl (ev_build' (out := [_, _, _]) rfl rfl rfl rfl rfl) (aops_freeze 1 rfl ?_)
  refine aops_weak (s' := (⟨92, [], [(0, vB false), (9, .agg [cI 1, cI 1, .val (Sv []), .val (.slice none 0 0), .val (.slice none 0 0)]), (10, .agg [cI 1, cI 0, cI 0, cI 1, cI 1, .val (Sv []), CV.ls c_Int [], CV.ls c_Str []]), (11, .agg [cI 32, cI 0, cI 0, cI 0, cI 0, .val (Sv []), CV.ls c_Int [], CV.ls c_Str []]), (12, .one (CV.ls c_Instr [(⟨1, 0, 0, (⟨1, 1, ([] : List UInt8), [], []⟩ : Value)⟩ : Instr), (⟨32, 0, 0, (⟨0, 0, ([] : List UInt8), [], []⟩ : Value)⟩ : Instr)])), (13, .agg [.val (Sv ([109] : List UInt8)), CV.ls c_Int [], cI 1, CV.ls c_Int [], CV.ls c_Instr [(⟨1, 0, 0, (⟨1, 1, ([] : List UInt8), [], []⟩ : Value)⟩ : Instr), (⟨32, 0, 0, (⟨0, 0, ([] : List UInt8), [], []⟩ : Value)⟩ : Instr)]]), (14, .one (CV.ls c_CodeMethod [(⟨([109] : List UInt8), [], 1, [], [(⟨1, 0, 0, (⟨1, 1, ([] : List UInt8), [], []⟩ : Value)⟩ : Instr), (⟨32, 0, 0, (⟨0, 0, ([] : List UInt8), [], []⟩ : Value)⟩ : Instr)]⟩ : CodeMethod)])), (15, .agg [.val (Sv ([65] : List UInt8)), CV.ls c_Field [], CV.ls c_CodeMethod [(⟨([109] : List UInt8), [], 1, [], [(⟨1, 0, 0, (⟨1, 1, ([] : List UInt8), [], []⟩ : Value)⟩ : Instr), (⟨32, 0, 0, (⟨0, 0, ([] : List UInt8), [], []⟩ : Value)⟩ : Instr)]⟩ : CodeMethod)]])], []⟩ : ASt)) wk ?_
  refine aops_step1 rfl (st_slice_lit (el := lsEl c_CodeType [(⟨([65] : List UInt8), [], [(⟨([109] : List UInt8), [], 1, [], [(⟨1, 0, 0, (⟨1, 1, ([] : List UInt8), [], []⟩ : Value)⟩ : Instr), (⟨32, 0, 0, (⟨0, 0, ([] : List UInt8), [], []⟩ : Value)⟩ : Instr)]⟩ : CodeMethod)]⟩ : CodeType)]) 2 rfl rfl rfl rfl rfl rfl rfl rfl (lit_el c_CodeType 3 [(⟨([65] : List UInt8), [], [(⟨([109] : List UInt8), [], 1, [], [(⟨1, 0, 0, (⟨1, 1, ([] : List UInt8), [], []⟩ : Value)⟩ : Instr), (⟨32, 0, 0, (⟨0, 0, ([] : List UInt8), [], []⟩ : Value)⟩ : Instr)]⟩ : CodeMethod)]⟩ : CodeType)] (fun _ => rfl)) rfl) ?_
  refine aops_step1 rfl (ev_build' (out := [_]) rfl rfl rfl rfl rfl) (aops_step1 rfl (st_alloc (cs := [.val (.slice none 0 0)]) 3 rfl rfl rfl rfl rfl) (s_st [_] ?_))
  refine aops_nil (aw_seq (aw_region (aops_step1 rfl (ev_build' (out := [_, _, _, _, _, _, _, _]) rfl rfl rfl rfl rfl) ?_)))
  refine aops_weak (s' := (⟨92, [], [(0, vB false), (1, .one (.ptr 3 0)), (9, .agg [cI 1, cI 1, .val (Sv []), .val (.slice none 0 0), .val (.slice none 0 0)]), (10, .agg [cI 1, cI 0, cI 0, cI 1, cI 1, .val (Sv []), CV.ls c_Int [], CV.ls c_Str []]), (11, .agg [cI 32, cI 0, cI 0, cI 0, cI 0, .val (Sv []), CV.ls c_Int [], CV.ls c_Str []]), (12, .one (CV.ls c_Instr [(⟨1, 0, 0, (⟨1, 1, ([] : List UInt8), [], []⟩ : Value)⟩ : Instr), (⟨32, 0, 0, (⟨0, 0, ([] : List UInt8), [], []⟩ : Value)⟩ : Instr)])), (13, .agg [.val (Sv ([109] : List UInt8)), CV.ls c_Int [], cI 1, CV.ls c_Int [], CV.ls c_Instr [(⟨1, 0, 0, (⟨1, 1, ([] : List UInt8), [], []⟩ : Value)⟩ : Instr), (⟨32, 0, 0, (⟨0, 0, ([] : List UInt8), [], []⟩ : Value)⟩ : Instr)]]), (14, .one (CV.ls c_CodeMethod [(⟨([109] : List UInt8), [], 1, [], [(⟨1, 0, 0, (⟨1, 1, ([] : List UInt8), [], []⟩ : Value)⟩ : Instr), (⟨32, 0, 0, (⟨0, 0, ([] : List UInt8), [], []⟩ : Value)⟩ : Instr)]⟩ : CodeMethod)])), (15, .agg [.val (Sv ([65] : List UInt8)), CV.ls c_Field [], CV.ls c_CodeMethod [(⟨([109] : List UInt8), [], 1, [], [(⟨1, 0, 0, (⟨1, 1, ([] : List UInt8), [], []⟩ : Value)⟩ : Instr), (⟨32, 0, 0, (⟨0, 0, ([] : List UInt8), [], []⟩ : Value)⟩ : Instr)]⟩ : CodeMethod)]]), (16, .one (.own 2)), (17, .agg [.own 2]), (18, .agg [cI 32, cI 0, cI 0, cI 0, cI 0, .val (Sv []), CV.ls c_Int [], CV.ls c_Str []])], [(2, some (.row 41 3 [(⟨([65] : List UInt8), [], [(⟨([109] : List UInt8), [], 1, [], [(⟨1, 0, 0, (⟨1, 1, ([] : List UInt8), [], []⟩ : Value)⟩ : Instr), (⟨32, 0, 0, (⟨0, 0, ([] : List UInt8), [], []⟩ : Value)⟩ : Instr)]⟩ : CodeMethod)]⟩ : CodeType)].length (lsEl c_CodeType [(⟨([65] : List UInt8), [], [(⟨([109] : List UInt8), [], 1, [], [(⟨1, 0, 0, (⟨1, 1, ([] : List UInt8), [], []⟩ : Value)⟩ : Instr), (⟨32, 0, 0, (⟨0, 0, ([] : List UInt8), [], []⟩ : Value)⟩ : Instr)]⟩ : CodeMethod)]⟩ : CodeType)]))), (3, some (.box [.own 2]))]⟩ : ASt)) wk ?_
  refine aops_step1 rfl (st_slice_lit (el := lsEl c_Instr [(⟨32, 0, 0, (⟨0, 0, ([] : List UInt8), [], []⟩ : Value)⟩ : Instr)]) 4 rfl rfl rfl rfl rfl rfl rfl rfl (lit_el c_Instr 8 [(⟨32, 0, 0, (⟨0, 0, ([] : List UInt8), [], []⟩ : Value)⟩ : Instr)] (fun _ => rfl)) rfl) ?_
  refine aops_step1 rfl (ev_build' (out := [_, _, _, _, _]) rfl rfl rfl rfl rfl) (aops_freeze 4 rfl ?_)
  refine aops_weak (s' := (⟨92, [], [(0, vB false), (1, .one (.ptr 3 0)), (9, .agg [cI 1, cI 1, .val (Sv []), .val (.slice none 0 0), .val (.slice none 0 0)]), (10, .agg [cI 1, cI 0, cI 0, cI 1, cI 1, .val (Sv []), CV.ls c_Int [], CV.ls c_Str []]), (11, .agg [cI 32, cI 0, cI 0, cI 0, cI 0, .val (Sv []), CV.ls c_Int [], CV.ls c_Str []]), (12, .one (CV.ls c_Instr [(⟨1, 0, 0, (⟨1, 1, ([] : List UInt8), [], []⟩ : Value)⟩ : Instr), (⟨32, 0, 0, (⟨0, 0, ([] : List UInt8), [], []⟩ : Value)⟩ : Instr)])), (13, .agg [.val (Sv ([109] : List UInt8)), CV.ls c_Int [], cI 1, CV.ls c_Int [], CV.ls c_Instr [(⟨1, 0, 0, (⟨1, 1, ([] : List UInt8), [], []⟩ : Value)⟩ : Instr), (⟨32, 0, 0, (⟨0, 0, ([] : List UInt8), [], []⟩ : Value)⟩ : Instr)]]), (14, .one (CV.ls c_CodeMethod [(⟨([109] : List UInt8), [], 1, [], [(⟨1, 0, 0, (⟨1, 1, ([] : List UInt8), [], []⟩ : Value)⟩ : Instr), (⟨32, 0, 0, (⟨0, 0, ([] : List UInt8), [], []⟩ : Value)⟩ : Instr)]⟩ : CodeMethod)])), (15, .agg [.val (Sv ([65] : List UInt8)), CV.ls c_Field [], CV.ls c_CodeMethod [(⟨([109] : List UInt8), [], 1, [], [(⟨1, 0, 0, (⟨1, 1, ([] : List UInt8), [], []⟩ : Value)⟩ : Instr), (⟨32, 0, 0, (⟨0, 0, ([] : List UInt8), [], []⟩ : Value)⟩ : Instr)]⟩ : CodeMethod)]]), (16, .one (.own 2)), (17, .agg [.own 2]), (18, .agg [cI 32, cI 0, cI 0, cI 0, cI 0, .val (Sv []), CV.ls c_Int [], CV.ls c_Str []]), (19, .one (CV.ls c_Instr [(⟨32, 0, 0, (⟨0, 0, ([] : List UInt8), [], []⟩ : Value)⟩ : Instr)])), (20, .agg [.val (Sv ([109] : List UInt8)), CV.ls c_Int [], cI 1, CV.ls c_Int [], CV.ls c_Instr [(⟨32, 0, 0, (⟨0, 0, ([] : List UInt8), [], []⟩ : Value)⟩ : Instr)]])], [(2, some (.row 41 3 [(⟨([65] : List UInt8), [], [(⟨([109] : List UInt8), [], 1, [], [(⟨1, 0, 0, (⟨1, 1, ([] : List UInt8), [], []⟩ : Value)⟩ : Instr), (⟨32, 0, 0, (⟨0, 0, ([] : List UInt8), [], []⟩ : Value)⟩ : Instr)]⟩ : CodeMethod)]⟩ : CodeType)].length (lsEl c_CodeType [(⟨([65] : List UInt8), [], [(⟨([109] : List UInt8), [], 1, [], [(⟨1, 0, 0, (⟨1, 1, ([] : List UInt8), [], []⟩ : Value)⟩ : Instr), (⟨32, 0, 0, (⟨0, 0, ([] : List UInt8), [], []⟩ : Value)⟩ : Instr)]⟩ : CodeMethod)]⟩ : CodeType)]))), (3, some (.box [.own 2]))]⟩ : ASt)) wk ?_
  refine aops_step1 rfl (st_slice_lit (el := lsEl c_CodeMethod [(⟨([109] : List UInt8), [], 1, [], [(⟨32, 0, 0, (⟨0, 0, ([] : List UInt8), [], []⟩ : Value)⟩ : Instr)]⟩ : CodeMethod)]) 5 rfl rfl rfl rfl rfl rfl rfl rfl (lit_el c_CodeMethod 5 [(⟨([109] : List UInt8), [], 1, [], [(⟨32, 0, 0, (⟨0, 0, ([] : List UInt8), [], []⟩ : Value)⟩ : Instr)]⟩ : CodeMethod)] (fun _ => rfl)) rfl) ?_
  refine aops_step1 rfl (ev_build' (out := [_, _, _]) rfl rfl rfl rfl rfl) (aops_freeze 5 rfl ?_)
  refine aops_weak (s' := (⟨92, [], [(0, vB false), (1, .one (.ptr 3 0)), (9, .agg [cI 1, cI 1, .val (Sv []), .val (.slice none 0 0), .val (.slice none 0 0)]), (10, .agg [cI 1, cI 0, cI 0, cI 1, cI 1, .val (Sv []), CV.ls c_Int [], CV.ls c_Str []]), (11, .agg [cI 32, cI 0, cI 0, cI 0, cI 0, .val (Sv []), CV.ls c_Int [], CV.ls c_Str []]), (12, .one (CV.ls c_Instr [(⟨1, 0, 0, (⟨1, 1, ([] : List UInt8), [], []⟩ : Value)⟩ : Instr), (⟨32, 0, 0, (⟨0, 0, ([] : List UInt8), [], []⟩ : Value)⟩ : Instr)])), (13, .agg [.val (Sv ([109] : List UInt8)), CV.ls c_Int [], cI 1, CV.ls c_Int [], CV.ls c_Instr [(⟨1, 0, 0, (⟨1, 1, ([] : List UInt8), [], []⟩ : Value)⟩ : Instr), (⟨32, 0, 0, (⟨0, 0, ([] : List UInt8), [], []⟩ : Value)⟩ : Instr)]]), (14, .one (CV.ls c_CodeMethod [(⟨([109] : List UInt8), [], 1, [], [(⟨1, 0, 0, (⟨1, 1, ([] : List UInt8), [], []⟩ : Value)⟩ : Instr), (⟨32, 0, 0, (⟨0, 0, ([] : List UInt8), [], []⟩ : Value)⟩ : Instr)]⟩ : CodeMethod)])), (15, .agg [.val (Sv ([65] : List UInt8)), CV.ls c_Field [], CV.ls c_CodeMethod [(⟨([109] : List UInt8), [], 1, [], [(⟨1, 0, 0, (⟨1, 1, ([] : List UInt8), [], []⟩ : Value)⟩ : Instr), (⟨32, 0, 0, (⟨0, 0, ([] : List UInt8), [], []⟩ : Value)⟩ : Instr)]⟩ : CodeMethod)]]), (16, .one (.own 2)), (17, .agg [.own 2]), (18, .agg [cI 32, cI 0, cI 0, cI 0, cI 0, .val (Sv []), CV.ls c_Int [], CV.ls c_Str []]), (19, .one (CV.ls c_Instr [(⟨32, 0, 0, (⟨0, 0, ([] : List UInt8), [], []⟩ : Value)⟩ : Instr)])), (20, .agg [.val (Sv ([109] : List UInt8)), CV.ls c_Int [], cI 1, CV.ls c_Int [], CV.ls c_Instr [(⟨32, 0, 0, (⟨0, 0, ([] : List UInt8), [], []⟩ : Value)⟩ : Instr)]]), (21, .one (CV.ls c_CodeMethod [(⟨([109] : List UInt8), [], 1, [], [(⟨32, 0, 0, (⟨0, 0, ([] : List UInt8), [], []⟩ : Value)⟩ : Instr)]⟩ : CodeMethod)])), (22, .agg [.val (Sv ([65] : List UInt8)), CV.ls c_Field [], CV.ls c_CodeMethod [(⟨([109] : List UInt8), [], 1, [], [(⟨32, 0, 0, (⟨0, 0, ([] : List UInt8), [], []⟩ : Value)⟩ : Instr)]⟩ : CodeMethod)]])], [(2, some (.row 41 3 [(⟨([65] : List UInt8), [], [(⟨([109] : List UInt8), [], 1, [], [(⟨1, 0, 0, (⟨1, 1, ([] : List UInt8), [], []⟩ : Value)⟩ : Instr), (⟨32, 0, 0, (⟨0, 0, ([] : List UInt8), [], []⟩ : Value)⟩ : Instr)]⟩ : CodeMethod)]⟩ : CodeType)].length (lsEl c_CodeType [(⟨([65] : List UInt8), [], [(⟨([109] : List UInt8), [], 1, [], [(⟨1, 0, 0, (⟨1, 1, ([] : List UInt8), [], []⟩ : Value)⟩ : Instr), (⟨32, 0, 0, (⟨0, 0, ([] : List UInt8), [], []⟩ : Value)⟩ : Instr)]⟩ : CodeMethod)]⟩ : CodeType)]))), (3, some (.box [.own 2]))]⟩ : ASt)) wk ?_
  refine aops_step1 rfl (st_slice_lit (el := lsEl c_CodeType [(⟨([65] : List UInt8), [], [(⟨([109] : List UInt8), [], 1, [], [(⟨32, 0, 0, (⟨0, 0, ([] : List UInt8), [], []⟩ : Value)⟩ : Instr)]⟩ : CodeMethod)]⟩ : CodeType)]) 6 rfl rfl rfl rfl rfl rfl rfl rfl (lit_el c_CodeType 3 [(⟨([65] : List UInt8), [], [(⟨([109] : List UInt8), [], 1, [], [(⟨32, 0, 0, (⟨0, 0, ([] : List UInt8), [], []⟩ : Value)⟩ : Instr)]⟩ : CodeMethod)]⟩ : CodeType)] (fun _ => rfl)) rfl) ?_
  refine aops_step1 rfl (ev_build' (out := [_]) rfl rfl rfl rfl rfl) (aops_step1 rfl (st_alloc (cs := [.val (.slice none 0 0)]) 7 rfl rfl rfl rfl rfl) (s_st [_] ?_))
  refine aops_nil (aw_seq (aw_region (s_ls [_] ?_)))
  obtain ⟨x1, hx1, h⟩ := Md.bind_s h
  refine aops_freeze 2 rfl ?_
  refine aops_step1 rfl (st_call_r (r' := .one (.own 8)) 8 rfl (bytecode_Encode_fn k (⟨[(⟨([65] : List UInt8), [], [(⟨([109] : List UInt8), [], 1, [], [(⟨1, 0, 0, (⟨1, 1, ([] : List UInt8), [], []⟩ : Value)⟩ : Instr), (⟨32, 0, 0, (⟨0, 0, ([] : List UInt8), [], []⟩ : Value)⟩ : Instr)]⟩ : CodeMethod)]⟩ : CodeType)]⟩ : Code) x1 hx1) rfl [] ai rfl rfl rfl (.inl rfl) rfl rfl) ?_
  refine aops_step1 rfl (st_slice_lit (el := lsEl byC [(7 : UInt8)]) 9 rfl rfl rfl rfl rfl rfl rfl rfl (lit_el byC 1 [(7 : UInt8)] (fun _ => rfl)) rfl) ?_
  obtain ⟨g2, h⟩ := Md.ifp_s h
  refine aops_step1 rfl (st_app_ls (f := byC) x1 [(7 : UInt8)] (fun _ => rfl) rfl rfl (.inr ⟨_, _, rfl, rfl⟩) (by omega) (by omega) rfl) ?_
  obtain ⟨x3, hx3, h⟩ := Md.bind_s h
  refine aops_freeze 8 rfl (aops_step1 rfl (ev_call_v (bytecode_Decode_fn k (x1 ++ [(7 : UInt8)]) x3 hx3) rfl [] ai rfl rfl rfl (.inl rfl) rfl) (s_mt ?_))
  iterate 3 refine s_ex ?_
  refine aops_step1 rfl (st_alloc (cs := [.val (.slice none 0 0)]) 10 rfl rfl rfl rfl rfl) (s_st [_] ?_)
  iterate 2 refine s_sa ?_
  refine aops_nil (aw_seq (aw_region (s_ls [_] ?_)))
  obtain ⟨x4, hx4, h⟩ := Md.bind_s h
  refine aops_step1 rfl (st_call_r (r' := .one (.own 11)) 11 rfl (bytecode_Depth_fn k (⟨[(⟨([65] : List UInt8), [], [(⟨([109] : List UInt8), [], 1, [], [(⟨1, 0, 0, (⟨1, 1, ([] : List UInt8), [], []⟩ : Value)⟩ : Instr), (⟨32, 0, 0, (⟨0, 0, ([] : List UInt8), [], []⟩ : Value)⟩ : Instr)]⟩ : CodeMethod)]⟩ : CodeType)]⟩ : Code) 0 0 x4 hx4) rfl [] ai rfl rfl rfl (.inl rfl) rfl rfl) (s_sa ?_)
  refine aops_nil (aw_seq (aw_region (s_ls [_] ?_)))
  obtain ⟨x5, hx5, h⟩ := Md.bind_s h
  refine aops_step1 rfl (ev_call_v (bytecode_FindType_fn k (⟨[(⟨([65] : List UInt8), [], [(⟨([109] : List UInt8), [], 1, [], [(⟨1, 0, 0, (⟨1, 1, ([] : List UInt8), [], []⟩ : Value)⟩ : Instr), (⟨32, 0, 0, (⟨0, 0, ([] : List UInt8), [], []⟩ : Value)⟩ : Instr)]⟩ : CodeMethod)]⟩ : CodeType)]⟩ : Code) ([65] : List UInt8) x5 hx5) rfl [] ai rfl rfl rfl (.inl rfl) rfl) (s_mt ?_)
  iterate 2 refine s_ex ?_
  iterate 2 refine s_sa ?_
  refine aops_nil (aw_seq (aw_region (s_ls [_] ?_)))
  obtain ⟨x6, hx6, h⟩ := Md.bind_s h
  refine aops_step1 rfl (ev_call_v (bytecode_Verify_fn k (⟨[(⟨([65] : List UInt8), [], [(⟨([109] : List UInt8), [], 1, [], [(⟨1, 0, 0, (⟨1, 1, ([] : List UInt8), [], []⟩ : Value)⟩ : Instr), (⟨32, 0, 0, (⟨0, 0, ([] : List UInt8), [], []⟩ : Value)⟩ : Instr)]⟩ : CodeMethod)]⟩ : CodeType)]⟩ : Code) x6 hx6) rfl [] ai rfl rfl rfl (.inl rfl) rfl) (s_cm ?_)
  refine s_mv ?_
  rcases Md.bool_or ((x6 == 0)) with q7 | q7
  · replace h := Md.cond_t h q7
    refine aops_yes rfl rfl rfl rfl q7 (ev_loads (ds := [_]) rfl rfl rfl rfl rfl) ?_
    obtain ⟨x8, hx8, h⟩ := Md.bind_s h
    refine aops_freeze 6 rfl ?_
    refine aops_yes rfl rfl rfl rfl q7 (ev_call_v (bytecode_Verify_fn k (⟨[(⟨([65] : List UInt8), [], [(⟨([109] : List UInt8), [], 1, [], [(⟨32, 0, 0, (⟨0, 0, ([] : List UInt8), [], []⟩ : Value)⟩ : Instr)]⟩ : CodeMethod)]⟩ : CodeType)]⟩ : Code) x8 hx8) rfl [] ai rfl rfl rfl (.inl rfl) rfl) (y_cm q7 ?_)
    refine s_py q7 ?_
    refine s_mv ?_
    obtain ⟨o9, j9, h⟩ := Md.bind_s h
    refine aops_cut 6 (ε := Bool) (fun x9 => (⟨92, [], [(0, vB false), (1, .one (.ptr 3 0)), (2, .one (.ptr 7 0)), (3, .one (.ptr 10 0)), (4, vI x3.2.1), (5, vI x3.2.2), (6, .one (.own 11)), (8, vB x5.2), (55, vB x9)], [(3, some (.box [CV.ls c_CodeType [(⟨([65] : List UInt8), [], [(⟨([109] : List UInt8), [], 1, [], [(⟨1, 0, 0, (⟨1, 1, ([] : List UInt8), [], []⟩ : Value)⟩ : Instr), (⟨32, 0, 0, (⟨0, 0, ([] : List UInt8), [], []⟩ : Value)⟩ : Instr)]⟩ : CodeMethod)]⟩ : CodeType)]])), (7, some (.box [CV.ls c_CodeType [(⟨([65] : List UInt8), [], [(⟨([109] : List UInt8), [], 1, [], [(⟨32, 0, 0, (⟨0, 0, ([] : List UInt8), [], []⟩ : Value)⟩ : Instr)]⟩ : CodeMethod)]⟩ : CodeType)]])), (10, some (.box [CV.ls c_CodeType x3.1.Types])), (11, some (.row 3 1 x4.length (lsEl c_Int x4)))]⟩ : ASt)) (fun x9 => x9 = o9) ?_ ?_
    · intro x9 hI9
      subst hI9
      change AOps _ _ _ (⟨92, [], [(0, vB false), (1, .one (.ptr 3 0)), (2, .one (.ptr 7 0)), (3, .one (.ptr 10 0)), (4, vI x3.2.1), (5, vI x3.2.2), (6, .one (.own 11)), (8, vB x5.2), (55, vB x9)], [(3, some (.box [CV.ls c_CodeType [(⟨([65] : List UInt8), [], [(⟨([109] : List UInt8), [], 1, [], [(⟨1, 0, 0, (⟨1, 1, ([] : List UInt8), [], []⟩ : Value)⟩ : Instr), (⟨32, 0, 0, (⟨0, 0, ([] : List UInt8), [], []⟩ : Value)⟩ : Instr)]⟩ : CodeMethod)]⟩ : CodeType)]])), (7, some (.box [CV.ls c_CodeType [(⟨([65] : List UInt8), [], [(⟨([109] : List UInt8), [], 1, [], [(⟨32, 0, 0, (⟨0, 0, ([] : List UInt8), [], []⟩ : Value)⟩ : Instr)]⟩ : CodeMethod)]⟩ : CodeType)]])), (10, some (.box [CV.ls c_CodeType x3.1.Types])), (11, some (.row 3 1 x4.length (lsEl c_Int x4)))]⟩ : ASt) _
      refine s_mv ?_
      refine aops_mid 3 (⟨92, [], [(0, vB false), (1, .one (.ptr 3 0)), (2, .one (.ptr 7 0)), (3, .one (.ptr 10 0)), (4, vI x3.2.1), (6, .one (.own 11)), (8, vB x5.2), (59, vB (x9 && (x3.2.2 == 0)))], [(3, some (.box [CV.ls c_CodeType [(⟨([65] : List UInt8), [], [(⟨([109] : List UInt8), [], 1, [], [(⟨1, 0, 0, (⟨1, 1, ([] : List UInt8), [], []⟩ : Value)⟩ : Instr), (⟨32, 0, 0, (⟨0, 0, ([] : List UInt8), [], []⟩ : Value)⟩ : Instr)]⟩ : CodeMethod)]⟩ : CodeType)]])), (7, some (.box [CV.ls c_CodeType [(⟨([65] : List UInt8), [], [(⟨([109] : List UInt8), [], 1, [], [(⟨32, 0, 0, (⟨0, 0, ([] : List UInt8), [], []⟩ : Value)⟩ : Instr)]⟩ : CodeMethod)]⟩ : CodeType)]])), (10, some (.box [CV.ls c_CodeType x3.1.Types])), (11, some (.row 3 1 x4.length (lsEl c_Int x4)))]⟩ : ASt) ?_ ?_
      · rcases Md.bool_or (x9) with q10 | q10
        · skip
          refine y_mv q10 ?_
          refine y_cm q10 ?_
          refine s_py q10 ?_
          refine aops_nil ?_
          exact wq q10
        iterate 2 refine np q10 ?_
        refine s_pn q10 ?_
        refine aops_nil ?_
        exact wq q10
      refine s_mv ?_
      obtain ⟨o11, j11, h⟩ := Md.bind_s h
      refine aops_cut 6 (ε := Bool) (fun x11 => (⟨92, [], [(0, vB false), (1, .one (.ptr 3 0)), (2, .one (.ptr 7 0)), (3, .one (.ptr 10 0)), (6, .one (.own 11)), (8, vB x5.2), (66, vB x11)], [(3, some (.box [CV.ls c_CodeType [(⟨([65] : List UInt8), [], [(⟨([109] : List UInt8), [], 1, [], [(⟨1, 0, 0, (⟨1, 1, ([] : List UInt8), [], []⟩ : Value)⟩ : Instr), (⟨32, 0, 0, (⟨0, 0, ([] : List UInt8), [], []⟩ : Value)⟩ : Instr)]⟩ : CodeMethod)]⟩ : CodeType)]])), (7, some (.box [CV.ls c_CodeType [(⟨([65] : List UInt8), [], [(⟨([109] : List UInt8), [], 1, [], [(⟨32, 0, 0, (⟨0, 0, ([] : List UInt8), [], []⟩ : Value)⟩ : Instr)]⟩ : CodeMethod)]⟩ : CodeType)]])), (10, some (.box [CV.ls c_CodeType x3.1.Types])), (11, some (.row 3 1 x4.length (lsEl c_Int x4)))]⟩ : ASt)) (fun x11 => x11 = o11) ?_ ?_
      · intro x11 hI11
        subst hI11
        change AOps _ _ _ (⟨92, [], [(0, vB false), (1, .one (.ptr 3 0)), (2, .one (.ptr 7 0)), (3, .one (.ptr 10 0)), (6, .one (.own 11)), (8, vB x5.2), (66, vB x11)], [(3, some (.box [CV.ls c_CodeType [(⟨([65] : List UInt8), [], [(⟨([109] : List UInt8), [], 1, [], [(⟨1, 0, 0, (⟨1, 1, ([] : List UInt8), [], []⟩ : Value)⟩ : Instr), (⟨32, 0, 0, (⟨0, 0, ([] : List UInt8), [], []⟩ : Value)⟩ : Instr)]⟩ : CodeMethod)]⟩ : CodeType)]])), (7, some (.box [CV.ls c_CodeType [(⟨([65] : List UInt8), [], [(⟨([109] : List UInt8), [], 1, [], [(⟨32, 0, 0, (⟨0, 0, ([] : List UInt8), [], []⟩ : Value)⟩ : Instr)]⟩ : CodeMethod)]⟩ : CodeType)]])), (10, some (.box [CV.ls c_CodeType x3.1.Types])), (11, some (.row 3 1 x4.length (lsEl c_Int x4)))]⟩ : ASt) _
        refine s_mv ?_
        obtain ⟨o12, j12, h⟩ := Md.bind_s h
        refine aops_cut 4 (ε := Bool) (fun x12 => (⟨92, [], [(0, vB false), (1, .one (.ptr 3 0)), (2, .one (.ptr 7 0)), (6, .one (.own 11)), (8, vB x5.2), (71, vB x12)], [(3, some (.box [CV.ls c_CodeType [(⟨([65] : List UInt8), [], [(⟨([109] : List UInt8), [], 1, [], [(⟨1, 0, 0, (⟨1, 1, ([] : List UInt8), [], []⟩ : Value)⟩ : Instr), (⟨32, 0, 0, (⟨0, 0, ([] : List UInt8), [], []⟩ : Value)⟩ : Instr)]⟩ : CodeMethod)]⟩ : CodeType)]])), (7, some (.box [CV.ls c_CodeType [(⟨([65] : List UInt8), [], [(⟨([109] : List UInt8), [], 1, [], [(⟨32, 0, 0, (⟨0, 0, ([] : List UInt8), [], []⟩ : Value)⟩ : Instr)]⟩ : CodeMethod)]⟩ : CodeType)]])), (11, some (.row 3 1 x4.length (lsEl c_Int x4)))]⟩ : ASt)) (fun x12 => x12 = o12) ?_ ?_
        · intro x12 hI12
          subst hI12
          change AOps _ _ _ (⟨92, [], [(0, vB false), (1, .one (.ptr 3 0)), (2, .one (.ptr 7 0)), (6, .one (.own 11)), (8, vB x5.2), (71, vB x12)], [(3, some (.box [CV.ls c_CodeType [(⟨([65] : List UInt8), [], [(⟨([109] : List UInt8), [], 1, [], [(⟨1, 0, 0, (⟨1, 1, ([] : List UInt8), [], []⟩ : Value)⟩ : Instr), (⟨32, 0, 0, (⟨0, 0, ([] : List UInt8), [], []⟩ : Value)⟩ : Instr)]⟩ : CodeMethod)]⟩ : CodeType)]])), (7, some (.box [CV.ls c_CodeType [(⟨([65] : List UInt8), [], [(⟨([109] : List UInt8), [], 1, [], [(⟨32, 0, 0, (⟨0, 0, ([] : List UInt8), [], []⟩ : Value)⟩ : Instr)]⟩ : CodeMethod)]⟩ : CodeType)]])), (11, some (.row 3 1 x4.length (lsEl c_Int x4)))]⟩ : ASt) _
          refine s_mv ?_
          obtain ⟨o13, j13, h⟩ := Md.bind_s h
          refine aops_cut 5 (ε := Bool) (fun x13 => (⟨92, [], [(0, vB false), (6, .one (.own 11)), (8, vB x5.2), (77, vB x13)], [(11, some (.row 3 1 x4.length (lsEl c_Int x4)))]⟩ : ASt)) (fun x13 => x13 = o13) ?_ ?_
          · intro x13 hI13
            subst hI13
            change AOps _ _ _ (⟨92, [], [(0, vB false), (6, .one (.own 11)), (8, vB x5.2), (77, vB x13)], [(11, some (.row 3 1 x4.length (lsEl c_Int x4)))]⟩ : ASt) _
            refine s_mv ?_
            refine aops_mid 4 (⟨92, [], [(0, vB false), (6, .one (.own 11)), (8, vB x5.2), (82, vB (x13 && (((x4.length : Nat) : Int) == 2)))], [(11, some (.row 3 1 x4.length (lsEl c_Int x4)))]⟩ : ASt) ?_ ?_
            · rcases Md.bool_or (x13) with q14 | q14
              · skip
                refine y_mv q14 ?_
                refine aops_yes rfl rfl rfl rfl q14 (ev_len_own rfl rfl rfl) (y_cm q14 ?_)
                refine s_py q14 ?_
                refine aops_nil ?_
                exact wq q14
              iterate 3 refine np q14 ?_
              refine s_pn q14 ?_
              refine aops_nil ?_
              exact wq q14
            refine s_mv ?_
            obtain ⟨o15, j15, h⟩ := Md.bind_s h
            refine aops_cut 5 (ε := Bool) (fun x15 => (⟨92, [], [(0, vB false), (8, vB x5.2), (88, vB x15)], []⟩ : ASt)) (fun x15 => x15 = o15) ?_ ?_
            · intro x15 hI15
              subst hI15
              change AOps _ _ _ (⟨92, [], [(0, vB false), (8, vB x5.2), (88, vB x15)], []⟩ : ASt) _
              refine s_mv ?_
              refine aops_mid 2 (⟨92, [], [(0, vB false), (91, vB (x15 && x5.2))], []⟩ : ASt) ?_ ?_
              · rcases Md.bool_or (x15) with q16 | q16
                · skip
                  refine y_mv q16 ?_
                  refine s_py q16 ?_
                  refine aops_nil ?_
                  exact wq q16
                refine np q16 ?_
                refine s_pn q16 ?_
                refine aops_nil ?_
                exact wq q16
              refine s_sa ?_
              refine aops_nil ?_
              cases Option.some.inj h
              exact aw_ret ⟨rfl, rv r1⟩
            rcases Md.bool_or ((x13 && (((x4.length : Nat) : Int) == 2))) with q15 | q15
            · replace j15 := Md.cond_t j15 q15
              refine y_mv q15 ?_
              obtain ⟨g17, j15⟩ := Md.ifp_s j15
              refine aops_freeze 11 rfl (aops_yes rfl rfl rfl rfl q15 (ev_index_in rfl rfl rfl g17 rfl rfl) (aops_yes rfl rfl rfl rfl q15 (ev_load_in rfl rfl rfl) (y_cm q15 ?_)))
              refine s_py q15 ?_
              refine aops_nil ?_
              show ∃ _x : Bool, _ = _ ∧ Weak _ _
              exact ⟨((x4.getD 1 default) == 1), Option.some.inj j15, wk⟩
            replace j15 := Md.cond_f j15 q15
            iterate 4 refine np q15 ?_
            refine s_pn q15 ?_
            refine aops_nil ?_
            show ∃ _x : Bool, _ = _ ∧ Weak _ _
            exact ⟨false, Option.some.inj j15, wk⟩
          rcases Md.bool_or (x12) with q13 | q13
          · replace j13 := Md.cond_t j13 q13
            refine aops_yes rfl rfl rfl rfl q13 (ev_loads (ds := [_]) rfl rfl rfl rfl rfl) (aops_yes rfl rfl rfl rfl q13 (ev_loads (ds := [_]) rfl rfl rfl rfl rfl) ?_)
            obtain ⟨x18, hx18, j13⟩ := Md.bind_s j13
            refine aops_yes rfl rfl rfl rfl q13 (ev_call_v (bytecode_Same_fn k (⟨[(⟨([65] : List UInt8), [], [(⟨([109] : List UInt8), [], 1, [], [(⟨1, 0, 0, (⟨1, 1, ([] : List UInt8), [], []⟩ : Value)⟩ : Instr), (⟨32, 0, 0, (⟨0, 0, ([] : List UInt8), [], []⟩ : Value)⟩ : Instr)]⟩ : CodeMethod)]⟩ : CodeType)]⟩ : Code) (⟨[(⟨([65] : List UInt8), [], [(⟨([109] : List UInt8), [], 1, [], [(⟨32, 0, 0, (⟨0, 0, ([] : List UInt8), [], []⟩ : Value)⟩ : Instr)]⟩ : CodeMethod)]⟩ : CodeType)]⟩ : Code) x18 hx18) rfl [] ai rfl rfl rfl (.inl rfl) rfl) (y_nt q13 ?_)
            refine s_py q13 ?_
            refine aops_nil ?_
            show ∃ _x : Bool, _ = _ ∧ Weak _ _
            exact ⟨(!x18), Option.some.inj j13, wk⟩
          replace j13 := Md.cond_f j13 q13
          iterate 4 refine np q13 ?_
          refine s_pn q13 ?_
          refine aops_nil ?_
          show ∃ _x : Bool, _ = _ ∧ Weak _ _
          exact ⟨false, Option.some.inj j13, wk⟩
        rcases Md.bool_or (x11) with q12 | q12
        · replace j12 := Md.cond_t j12 q12
          refine aops_yes rfl rfl rfl rfl q12 (ev_loads (ds := [_]) rfl rfl rfl rfl rfl) (aops_yes rfl rfl rfl rfl q12 (ev_loads (ds := [_]) rfl rfl rfl rfl rfl) ?_)
          obtain ⟨x19, hx19, j12⟩ := Md.bind_s j12
          refine aops_yes rfl rfl rfl rfl q12 (ev_call_v (bytecode_Same_fn k x3.1 (⟨[(⟨([65] : List UInt8), [], [(⟨([109] : List UInt8), [], 1, [], [(⟨1, 0, 0, (⟨1, 1, ([] : List UInt8), [], []⟩ : Value)⟩ : Instr), (⟨32, 0, 0, (⟨0, 0, ([] : List UInt8), [], []⟩ : Value)⟩ : Instr)]⟩ : CodeMethod)]⟩ : CodeType)]⟩ : Code) x19 hx19) rfl [] ai rfl rfl rfl (.inl rfl) rfl) (s_py q12 ?_)
          refine aops_nil ?_
          show ∃ _x : Bool, _ = _ ∧ Weak _ _
          exact ⟨x19, Option.some.inj j12, wk⟩
        replace j12 := Md.cond_f j12 q12
        iterate 3 refine np q12 ?_
        refine s_pn q12 ?_
        refine aops_nil ?_
        show ∃ _x : Bool, _ = _ ∧ Weak _ _
        exact ⟨false, Option.some.inj j12, wk⟩
      rcases Md.bool_or ((x9 && (x3.2.2 == 0))) with q11 | q11
      · replace j11 := Md.cond_t j11 q11
        refine y_mv q11 ?_
        refine aops_yes rfl rfl rfl rfl q11 (ev_loads (ds := [_]) rfl rfl rfl rfl rfl) ?_
        obtain ⟨x20, hx20, j11⟩ := Md.bind_s j11
        refine aops_yes rfl rfl rfl rfl q11 (st_call_r (r' := .one (.own 12)) 12 rfl (bytecode_Encode_fn k (⟨[(⟨([65] : List UInt8), [], [(⟨([109] : List UInt8), [], 1, [], [(⟨1, 0, 0, (⟨1, 1, ([] : List UInt8), [], []⟩ : Value)⟩ : Instr), (⟨32, 0, 0, (⟨0, 0, ([] : List UInt8), [], []⟩ : Value)⟩ : Instr)]⟩ : CodeMethod)]⟩ : CodeType)]⟩ : Code) x20 hx20) rfl [] ai rfl rfl rfl (.inl rfl) rfl rfl) ?_
        refine aops_yes rfl rfl rfl rfl q11 (ev_len_own rfl rfl rfl) (y_cm q11 ?_)
        refine s_py q11 ?_
        refine aops_nil ?_
        show ∃ _x : Bool, _ = _ ∧ Weak _ _
        exact ⟨(x3.2.1 == ((x20.length : Nat) : Int)), Option.some.inj j11, wk⟩
      replace j11 := Md.cond_f j11 q11
      iterate 5 refine np q11 ?_
      refine s_pn q11 ?_
      refine aops_nil ?_
      show ∃ _x : Bool, _ = _ ∧ Weak _ _
      exact ⟨false, Option.some.inj j11, wk⟩
    rcases Md.bool_or ((x8 == 16)) with q9 | q9
    · replace j9 := Md.cond_t j9 q9
      refine aops_yes rfl rfl rfl rfl q9 (ev_build' (out := [_, _, _]) rfl rfl rfl rfl rfl) ?_
      refine aops_weak (s' := (⟨92, [], [(0, vB false), (1, .one (.ptr 3 0)), (2, .one (.ptr 7 0)), (3, .one (.ptr 10 0)), (4, vI x3.2.1), (5, vI x3.2.2), (6, .one (.own 11)), (7, vI x5.1), (8, vB x5.2), (9, .agg [cI 1, cI 1, .val (Sv []), .val (.slice none 0 0), .val (.slice none 0 0)]), (10, .agg [cI 1, cI 0, cI 0, cI 1, cI 1, .val (Sv []), CV.ls c_Int [], CV.ls c_Str []]), (11, .agg [cI 32, cI 0, cI 0, cI 0, cI 0, .val (Sv []), CV.ls c_Int [], CV.ls c_Str []]), (12, .one (CV.ls c_Instr [(⟨1, 0, 0, (⟨1, 1, ([] : List UInt8), [], []⟩ : Value)⟩ : Instr), (⟨32, 0, 0, (⟨0, 0, ([] : List UInt8), [], []⟩ : Value)⟩ : Instr)])), (13, .agg [.val (Sv ([109] : List UInt8)), CV.ls c_Int [], cI 1, CV.ls c_Int [], CV.ls c_Instr [(⟨1, 0, 0, (⟨1, 1, ([] : List UInt8), [], []⟩ : Value)⟩ : Instr), (⟨32, 0, 0, (⟨0, 0, ([] : List UInt8), [], []⟩ : Value)⟩ : Instr)]]), (14, .one (CV.ls c_CodeMethod [(⟨([109] : List UInt8), [], 1, [], [(⟨1, 0, 0, (⟨1, 1, ([] : List UInt8), [], []⟩ : Value)⟩ : Instr), (⟨32, 0, 0, (⟨0, 0, ([] : List UInt8), [], []⟩ : Value)⟩ : Instr)]⟩ : CodeMethod)])), (15, .agg [.val (Sv ([65] : List UInt8)), CV.ls c_Field [], CV.ls c_CodeMethod [(⟨([109] : List UInt8), [], 1, [], [(⟨1, 0, 0, (⟨1, 1, ([] : List UInt8), [], []⟩ : Value)⟩ : Instr), (⟨32, 0, 0, (⟨0, 0, ([] : List UInt8), [], []⟩ : Value)⟩ : Instr)]⟩ : CodeMethod)]]), (16, .one (CV.ls c_CodeType [(⟨([65] : List UInt8), [], [(⟨([109] : List UInt8), [], 1, [], [(⟨1, 0, 0, (⟨1, 1, ([] : List UInt8), [], []⟩ : Value)⟩ : Instr), (⟨32, 0, 0, (⟨0, 0, ([] : List UInt8), [], []⟩ : Value)⟩ : Instr)]⟩ : CodeMethod)]⟩ : CodeType)])), (17, .agg [CV.ls c_CodeType [(⟨([65] : List UInt8), [], [(⟨([109] : List UInt8), [], 1, [], [(⟨1, 0, 0, (⟨1, 1, ([] : List UInt8), [], []⟩ : Value)⟩ : Instr), (⟨32, 0, 0, (⟨0, 0, ([] : List UInt8), [], []⟩ : Value)⟩ : Instr)]⟩ : CodeMethod)]⟩ : CodeType)]]), (18, .agg [cI 32, cI 0, cI 0, cI 0, cI 0, .val (Sv []), CV.ls c_Int [], CV.ls c_Str []]), (19, .one (CV.ls c_Instr [(⟨32, 0, 0, (⟨0, 0, ([] : List UInt8), [], []⟩ : Value)⟩ : Instr)])), (20, .agg [.val (Sv ([109] : List UInt8)), CV.ls c_Int [], cI 1, CV.ls c_Int [], CV.ls c_Instr [(⟨32, 0, 0, (⟨0, 0, ([] : List UInt8), [], []⟩ : Value)⟩ : Instr)]]), (21, .one (CV.ls c_CodeMethod [(⟨([109] : List UInt8), [], 1, [], [(⟨32, 0, 0, (⟨0, 0, ([] : List UInt8), [], []⟩ : Value)⟩ : Instr)]⟩ : CodeMethod)])), (22, .agg [.val (Sv ([65] : List UInt8)), CV.ls c_Field [], CV.ls c_CodeMethod [(⟨([109] : List UInt8), [], 1, [], [(⟨32, 0, 0, (⟨0, 0, ([] : List UInt8), [], []⟩ : Value)⟩ : Instr)]⟩ : CodeMethod)]]), (23, .one (CV.ls c_CodeType [(⟨([65] : List UInt8), [], [(⟨([109] : List UInt8), [], 1, [], [(⟨32, 0, 0, (⟨0, 0, ([] : List UInt8), [], []⟩ : Value)⟩ : Instr)]⟩ : CodeMethod)]⟩ : CodeType)])), (24, .agg [CV.ls c_CodeType [(⟨([65] : List UInt8), [], [(⟨([109] : List UInt8), [], 1, [], [(⟨32, 0, 0, (⟨0, 0, ([] : List UInt8), [], []⟩ : Value)⟩ : Instr)]⟩ : CodeMethod)]⟩ : CodeType)]]), (25, .tup [.agg [CV.ls c_CodeType x3.1.Types], vI x3.2.1, vI x3.2.2]), (26, .agg [CV.ls c_CodeType [(⟨([65] : List UInt8), [], [(⟨([109] : List UInt8), [], 1, [], [(⟨1, 0, 0, (⟨1, 1, ([] : List UInt8), [], []⟩ : Value)⟩ : Instr), (⟨32, 0, 0, (⟨0, 0, ([] : List UInt8), [], []⟩ : Value)⟩ : Instr)]⟩ : CodeMethod)]⟩ : CodeType)]]), (27, .one (.any)), (28, .one (.own 9)), (29, .one (CV.ls byC (x1 ++ [(7 : UInt8)]))), (30, .tup [.agg [CV.ls c_CodeType x3.1.Types], vI x3.2.1, vI x3.2.2]), (31, .agg [CV.ls c_CodeType x3.1.Types]), (32, vI x3.2.1), (33, vI x3.2.2), (34, .agg [CV.ls c_CodeType [(⟨([65] : List UInt8), [], [(⟨([109] : List UInt8), [], 1, [], [(⟨1, 0, 0, (⟨1, 1, ([] : List UInt8), [], []⟩ : Value)⟩ : Instr), (⟨32, 0, 0, (⟨0, 0, ([] : List UInt8), [], []⟩ : Value)⟩ : Instr)]⟩ : CodeMethod)]⟩ : CodeType)]]), (35, .one (.own 11)), (36, .tup [vI x5.1, vB x5.2]), (37, .agg [CV.ls c_CodeType [(⟨([65] : List UInt8), [], [(⟨([109] : List UInt8), [], 1, [], [(⟨1, 0, 0, (⟨1, 1, ([] : List UInt8), [], []⟩ : Value)⟩ : Instr), (⟨32, 0, 0, (⟨0, 0, ([] : List UInt8), [], []⟩ : Value)⟩ : Instr)]⟩ : CodeMethod)]⟩ : CodeType)]]), (38, .tup [vI x5.1, vB x5.2]), (39, vI x5.1), (40, vB x5.2), (41, .agg [CV.ls c_CodeType [(⟨([65] : List UInt8), [], [(⟨([109] : List UInt8), [], 1, [], [(⟨1, 0, 0, (⟨1, 1, ([] : List UInt8), [], []⟩ : Value)⟩ : Instr), (⟨32, 0, 0, (⟨0, 0, ([] : List UInt8), [], []⟩ : Value)⟩ : Instr)]⟩ : CodeMethod)]⟩ : CodeType)]]), (42, vI x6), (43, vB (x6 == 0)), (44, vB (x6 == 0)), (45, .agg [CV.ls c_CodeType [(⟨([65] : List UInt8), [], [(⟨([109] : List UInt8), [], 1, [], [(⟨32, 0, 0, (⟨0, 0, ([] : List UInt8), [], []⟩ : Value)⟩ : Instr)]⟩ : CodeMethod)]⟩ : CodeType)]]), (46, vI x8), (47, vB (x8 == 16)), (48, vB (x8 == 16)), (49, vB (x8 == 16)), (50, .agg [.val (Sv []), CV.ls c_Field [], CV.ls c_CodeMethod []])], [(3, some (.box [CV.ls c_CodeType [(⟨([65] : List UInt8), [], [(⟨([109] : List UInt8), [], 1, [], [(⟨1, 0, 0, (⟨1, 1, ([] : List UInt8), [], []⟩ : Value)⟩ : Instr), (⟨32, 0, 0, (⟨0, 0, ([] : List UInt8), [], []⟩ : Value)⟩ : Instr)]⟩ : CodeMethod)]⟩ : CodeType)]])), (7, some (.box [CV.ls c_CodeType [(⟨([65] : List UInt8), [], [(⟨([109] : List UInt8), [], 1, [], [(⟨32, 0, 0, (⟨0, 0, ([] : List UInt8), [], []⟩ : Value)⟩ : Instr)]⟩ : CodeMethod)]⟩ : CodeType)]])), (9, some (.row 5 1 [(7 : UInt8)].length (lsEl byC [(7 : UInt8)]))), (10, some (.box [CV.ls c_CodeType x3.1.Types])), (11, some (.row 3 1 x4.length (lsEl c_Int x4)))]⟩ : ASt)) wk ?_
      refine aops_yes rfl rfl rfl rfl q9 (st_slice_lit (el := lsEl c_CodeType [(⟨([] : List UInt8), [], []⟩ : CodeType)]) 12 rfl rfl rfl rfl rfl rfl rfl rfl (lit_el c_CodeType 3 [(⟨([] : List UInt8), [], []⟩ : CodeType)] (fun _ => rfl)) rfl) ?_
      refine aops_yes rfl rfl rfl rfl q9 (ev_build' (out := [_]) rfl rfl rfl rfl rfl) ?_
      obtain ⟨x21, hx21, j9⟩ := Md.bind_s j9
      refine aops_freeze 12 rfl ?_
      refine aops_yes rfl rfl rfl rfl q9 (ev_call_v (bytecode_Verify_fn k (⟨[(⟨([] : List UInt8), [], []⟩ : CodeType)]⟩ : Code) x21 hx21) rfl [] ai rfl rfl rfl (.inl rfl) rfl) (y_cm q9 ?_)
      refine s_py q9 ?_
      refine aops_nil ?_
      show ∃ _x : Bool, _ = _ ∧ Weak _ _
      exact ⟨(x21 == 1), Option.some.inj j9, wk⟩
    replace j9 := Md.cond_f j9 q9
    iterate 5 refine np q9 ?_
    refine s_pn q9 ?_
    refine aops_nil ?_
    show ∃ _x : Bool, _ = _ ∧ Weak _ _
    exact ⟨false, Option.some.inj j9, wk⟩
  replace h := Md.cond_f h q7
  iterate 3 refine np q7 ?_
  refine s_pn q7 ?_
  refine s_mv ?_
  iterate 5 refine aops_no rfl rfl rfl rfl rfl (by decide) ?_
  refine aops_step1 rfl (st_pick_no rfl (by first | rfl | exact rfl) rfl rfl) (s_mv ?_)
  refine aops_no rfl rfl rfl rfl rfl (by decide) (aops_no rfl rfl rfl rfl rfl (by decide) (aops_step1 rfl (st_pick_no rfl (by first | rfl | exact rfl) rfl rfl) (s_mv ?_)))
  iterate 5 refine aops_no rfl rfl rfl rfl rfl (by decide) ?_
  refine aops_step1 rfl (st_pick_no rfl (by first | rfl | exact rfl) rfl rfl) (s_mv ?_)
  iterate 3 refine aops_no rfl rfl rfl rfl rfl (by decide) ?_
  refine aops_step1 rfl (st_pick_no rfl (by first | rfl | exact rfl) rfl rfl) (s_mv ?_)
  iterate 4 refine aops_no rfl rfl rfl rfl rfl (by decide) ?_
  refine aops_step1 rfl (st_pick_no rfl (by first | rfl | exact rfl) rfl rfl) (s_mv ?_)
  iterate 3 refine aops_no rfl rfl rfl rfl rfl (by decide) ?_
  refine aops_step1 rfl (st_pick_no rfl (by first | rfl | exact rfl) rfl rfl) (s_mv ?_)
  iterate 4 refine aops_no rfl rfl rfl rfl rfl (by decide) ?_
  refine aops_step1 rfl (st_pick_no rfl (by first | rfl | exact rfl) rfl rfl) (s_mv ?_)
  refine aops_no rfl rfl rfl rfl rfl (by decide) (aops_step1 rfl (st_pick_no rfl (by first | rfl | exact rfl) rfl rfl) (s_sa ?_))
  refine aops_nil ?_
  cases Option.some.inj h
  exact aw_ret ⟨rfl, rv r1⟩
end Md
end Go.Proofs.Ytclffekkjfhpdaa
