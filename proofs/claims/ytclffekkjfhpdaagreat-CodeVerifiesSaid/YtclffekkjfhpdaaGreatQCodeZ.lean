import Derived.Test.YtclffekkjfhpdaaGreatQAbsSw
import Derived.Test.YtclffekkjfhpdaaGreatQMo
import Derived.Test.YtclffekkjfhpdaaGreatQTy
import Derived.Test.YtclffekkjfhpdaaGreatQAbsS
import Derived.Test.YtclffekkjfhpdaaGreatQCodeL
import Derived.Test.YtclffekkjfhpdaaGreatQRefE
namespace Go.Proofs.YtclffekkjfhpdaaGreat
open Go.ChangeShapes Go.WideShapes Go.RowKit
open Abs
set_option linter.unusedVariables false
set_option linter.unusedSimpArgs false
set_option maxRecDepth 10000
namespace Md
set_option maxHeartbeats 2000000 in
theorem zfa {k:Nat} {a0:Code} {a1:Int} {a2:Int} {r:Bool} (h:zcp k a0 a1 a2=some r):FnC Tryz.prog 3 [.agg [CV.ls zab a0.Types],vI a1,vI a2] [] (Det (vB r) []):=by
 unfold zcp at h
 refine fn_intro' 28 Tryz.func3 rfl rfl rfl (aw_seq (aw_region (zaa rfl (st_box 0 rfl rfl rfl rfl) (s_sa ?_))))
 refine aops_nil (aw_seq (aw_seq (aw_region ?_)))
 obtain ⟨x1,hx1,h⟩:=bind_s h
 refine zaa rfl (ev_call_v (zge hx1) rfl [] ai rfl rfl rfl (.inl rfl) rfl) (s_nt (aops_nil ?_))
 refine aw_if h (fun c2 h=>?_) (fun c2 h=>?_)
 ·refine aw_seq (aw_region (s_sa (aops_nil ?_)))
  cases sj h
  exact aw_ret ⟨rfl,rv r1⟩
 refine aw_skip (aw_seq (aw_seq (aw_region (s_ls [_] ?_))))
 obtain ⟨x3,hx3,h⟩:=bind_s h
 refine zaa rfl (ev_call_v (zgj hx3) rfl [] ai rfl rfl rfl (.inl rfl) rfl) (s_nt (aops_nil ?_))
 refine aw_if h (fun c4 h=>?_) (fun c4 h=>?_)
 ·refine aw_seq (aw_region (s_sa (aops_nil ?_)))
  cases sj h
  exact aw_ret ⟨rfl,rv r1⟩
 refine aw_skip ?_
 obtain ⟨x5,hx5,h⟩:=bind_s h
 obtain ⟨x6,hx6,h⟩:=bind_s h
 rcases co h with ⟨q7,h⟩|⟨q7,h⟩
 ·obtain ⟨x8,hx8,h⟩:=bind_s h
  obtain ⟨x9,hx9,h⟩:=bind_s h
  obtain ⟨x10,hx10,h⟩:=bind_s h
  refine aw_seq ?_
  apply aw_draw 13 [ad _,ad _,ad _,ad _,ad _,ad _,ad _,ad _,ad _,ad _,ad _,ad _,ad _] (by decide) rfl ?hk1x ?hf1x ?ho1x ?hr1x
  case ho1x =>
   refine obn 0 (fun S hle hfr=>.inl ⟨w0,ev_loads (ds:=[_]) (hle.e rfl) (hle.heap _ _ rfl) rfl rfl (hle.d rfl)⟩) ?_
   refine obn 1 (fun S hle hfr=>.inl ⟨w0,ev_call_v (zdn hx5) (map_ev (.cons (hle.e rfl) (.nil))) [] (by repeat' (first|exact .nil|refine .cons ?_ ?_|refine .one ?_|refine .agg ?_|exact .mk rfl|exact .lend (hle.heap _ _ rfl) (by simp)|exact .le (.nil _) rfl|exact .le (.emp _) rfl|exact .le (.any _) rfl|fail)) rfl rfl rfl (.inl rfl) (hle.d rfl)⟩) ?_
   refine obn 0 (fun S hle hfr=>.inl ⟨w0,ev_loads (ds:=[_]) (hle.e rfl) (hle.heap _ _ rfl) rfl rfl (hle.d rfl)⟩) ?_
   refine obn 7 (fun S hle hfr=>.inl ⟨w0,ev_call_v (zdR hx6) (map_ev (.cons (hle.e rfl) (.nil))) [] (by repeat' (first|exact .nil|refine .cons ?_ ?_|refine .one ?_|refine .agg ?_|exact .mk rfl|exact .lend (hle.heap _ _ rfl) (by simp)|exact .le (.nil _) rfl|exact .le (.emp _) rfl|exact .le (.any _) rfl|fail)) rfl rfl rfl (.inl rfl) (hle.d rfl)⟩) ?_
   refine o_cm 15 ?_
   refine o_mv 31 ?_
   refine obn 63 (fun S hle hfr=>.inl ⟨wy hle q7,ev_loads (ds:=[_]) (hle.e rfl) (hle.heap _ _ rfl) rfl rfl (hle.d rfl)⟩) ?_
   refine p_mv 63 q7 ?_
   refine p_mv 63 q7 ?_
   refine obn 511 (fun S hle hfr=>.inl ⟨wy hle q7,st_call_z (zgb hx8) (map_ev (.cons (hle.e rfl) (.cons (hle.e rfl) (.cons (hle.e rfl) (.nil))))) [] (fun _=>(by repeat' (first|exact .nil|refine .cons ?_ ?_|refine .one ?_|refine .agg ?_|exact .mk rfl|exact .lend (hle.heap _ _ rfl) (by simp)|exact .le (.nil _) rfl|exact .le (.emp _) rfl|exact .le (.any _) rfl|fail))) rfl (.inl rfl) (hle.d rfl)⟩) ?_
   refine obn 63 (fun S hle hfr=>.inl ⟨wy hle q7,ev_loads (ds:=[_]) (hle.e rfl) (hle.heap _ _ rfl) rfl rfl (hle.d rfl)⟩) ?_
   refine p_mv 63 q7 ?_
   refine p_mv 63 q7 ?_
   exact trivial
  case hk1x=>rfl
  case hf1x=>rfl
  refine aops_yes rfl rfl rfl rfl q7 (ev_call_v (zgc hx9) rfl [] ai rfl rfl rfl (.inl rfl) rfl) ?_
  refine aops_yes rfl rfl rfl rfl q7 (ev_call_v (zbL hx10) rfl [] ai rfl rfl rfl (.inl rfl) rfl) (s_py q7 ?_)
  refine s_sa (aops_nil ?_)
  cases sj h
  exact aw_ret ⟨rfl,rv r1⟩
 refine aw_seq ?_
 apply aw_draw 13 [ad _,ad _,ad _,ad _,ad _,ad _,ad _,ad _,ad _,ad _,ad _,ad _,ad _] (by decide) rfl ?hk2x ?hf2x ?ho2x ?hr2x
 case ho2x =>
  refine obn 0 (fun S hle hfr=>.inl ⟨w0,ev_loads (ds:=[_]) (hle.e rfl) (hle.heap _ _ rfl) rfl rfl (hle.d rfl)⟩) ?_
  refine obn 1 (fun S hle hfr=>.inl ⟨w0,ev_call_v (zdn hx5) (map_ev (.cons (hle.e rfl) (.nil))) [] (by repeat' (first|exact .nil|refine .cons ?_ ?_|refine .one ?_|refine .agg ?_|exact .mk rfl|exact .lend (hle.heap _ _ rfl) (by simp)|exact .le (.nil _) rfl|exact .le (.emp _) rfl|exact .le (.any _) rfl|fail)) rfl rfl rfl (.inl rfl) (hle.d rfl)⟩) ?_
  refine obn 0 (fun S hle hfr=>.inl ⟨w0,ev_loads (ds:=[_]) (hle.e rfl) (hle.heap _ _ rfl) rfl rfl (hle.d rfl)⟩) ?_
  refine obn 7 (fun S hle hfr=>.inl ⟨w0,ev_call_v (zdR hx6) (map_ev (.cons (hle.e rfl) (.nil))) [] (by repeat' (first|exact .nil|refine .cons ?_ ?_|refine .one ?_|refine .agg ?_|exact .mk rfl|exact .lend (hle.heap _ _ rfl) (by simp)|exact .le (.nil _) rfl|exact .le (.emp _) rfl|exact .le (.any _) rfl|fail)) rfl rfl rfl (.inl rfl) (hle.d rfl)⟩) ?_
  refine o_cm 15 ?_
  refine o_mv 31 ?_
  iterate 3 refine ob [5,4,3,1,2,0] (fun S hle hfr=>nw hle q7) ?_
  refine on 511 q7 ?_
  iterate 3 refine ob [5,4,3,1,2,0] (fun S hle hfr=>nw hle q7) ?_
  exact trivial
 case hk2x=>rfl
 case hf2x=>rfl
 iterate 2 refine np q7 ?_
 refine s_pn q7 ?_
 refine s_sa (aops_nil ?_)
 cases sj h
 exact aw_ret ⟨rfl,rv r1⟩
end Md
end Go.Proofs.YtclffekkjfhpdaaGreat

