/-
  StorD: where a function's model gives a value, the function returns what reads as it (printed by wip/tools/auto.py). Condition of each: the model gives a value.
-/
import Derived.Test.YtkcfkcgclljncaaStorDM
import Derived.Test.YtkcfkcgclljncaaTy
import Derived.Test.YtkcfkcgclljncaaAbsT
import Derived.Test.YtkcfkcgclljncaaStorB
namespace Go.Proofs.Ytkcfkcgclljncaa
open Go.ChangeShapes Go.WideShapes Go.RowKit
open Abs
set_option linter.unusedVariables false
set_option linter.unusedSimpArgs false
set_option maxRecDepth 10000
namespace Md
def c_Actorgridlaw28Act (x : Actorgridlaw28Act) : List CV := [.val (.int .u8 (x.Kind.toNat : Int)), CV.ls byC x.B, .val (.int .u8 (x.Writes.toNat : Int)), .val (.int .u8 (x.Keep.toNat : Int))]
set_option maxHeartbeats 2000000 in
theorem actorgridlaw28_restart_fn (k : Nat) (a0 : Store) (a1 : Store) (r : Bool × Store × Store) (h : actorgridlaw28_restart k a0 a1 = some r) : FnC Try.prog 77 [.one (.ptr 0 0), .one (.ptr 1 0)] (boxesH 0 [(c_Store a0), (c_Store a1)]) (Det (vB r.1) (boxesH 0 [(c_Store r.2.1), (c_Store r.2.2)])) := by
  unfold actorgridlaw28_restart at h
  refine fn_intro' 115 Try.func77 rfl rfl rfl (aw_seq (aw_region (s_sa ?_)))
  refine aops_nil (aw_seq (aw_seq (aw_region (s_sa ?_))))
  refine aops_nil (aw_block ?_)
  obtain ⟨o1, ho1, h⟩ := Md.bind_s h
  refine aw_loop_x (ι := {p : Nat × Nat × Store × Store // actorgridlaw28_restart_loop1 k p.1 p.2.1 p.2.2.1 p.2.2.2 = some o1}) (fun p => (⟨115, [0, 1], [(0, .one (.ptr 0 0)), (1, .one (.ptr 1 0)), (5, vI ((p.1.2.1 : Nat) : Int))], [(0, some (.box (c_Store p.1.2.2.1))), (1, some (.box (c_Store p.1.2.2.2)))]⟩ : ASt)) (fun p => p.1.1) ⟨(k, 0, a0, a1), ho1⟩ wk 0 (ε := (Store × Store)) (fun x => (⟨115, [0, 1], [(0, .one (.ptr 0 0)), (1, .one (.ptr 1 0))], [(0, some (.box (c_Store x.1))), (1, some (.box (c_Store x.2)))]⟩ : ASt)) (fun x => Sum.inl x = o1) (fun _ _ w h => aw_weak w h) ?_ ?_
  · intro x1_0 hI1
    subst hI1
    replace h := Md.onS_l h
    change AW _ _ (⟨115, [0, 1], [(0, .one (.ptr 0 0)), (1, .one (.ptr 1 0))], [(0, some (.box (c_Store x1_0.1))), (1, some (.box (c_Store x1_0.2)))]⟩ : ASt) _
    obtain ⟨x2, hx2, h⟩ := Md.bind_s h
    refine aw_seq ?_
    apply aw_draw_over 19 [(17, [15, 12, 10, 0, 1, 2, 3, 4, 5, 6, 7, 8, 9, 11, 16], 2, (c_Store x2.1)), (18, [16, 13, 17, 0, 1, 2, 3, 4, 5, 6, 7, 8, 9, 10, 11, 12, 15], 3, (c_StoreContents x2.2.1))] ((⟨[], .one (.ptr 0 _)⟩ : Add) :: ⟨[], .one (.ptr 0 _)⟩ :: ⟨[], .one (.ptr 0 _)⟩ :: ⟨[], .one (.ptr 0 _)⟩ :: ⟨[], .agg (c_Disk x1_0.1.Disks.x0)⟩ :: ⟨[], .one (.ptr 0 _)⟩ :: ⟨[], .one (.ptr 0 _)⟩ :: ⟨[], .one (.ptr 0 _)⟩ :: ⟨[], .one (.ptr 0 _)⟩ :: ⟨[], .agg (c_Disk x1_0.1.Disks.x1)⟩ :: ⟨[], .tup [.agg (c_Store x2.1), .agg (c_StoreContents x2.2.1), vI x2.2.2]⟩ :: ⟨[], .tup [.agg (c_Store x2.1), .agg (c_StoreContents x2.2.1), vI x2.2.2]⟩ :: ⟨[], .agg (c_Store x2.1)⟩ :: ⟨[], .agg (c_StoreContents x2.2.1)⟩ :: ⟨[], vI x2.2.2⟩ :: ⟨[(2, some (.box [.val (.slice none 0 0), cI 0, cB false, cI 0, cI 0, cB false, .val (.slice none 0 0), cI 0, cB false, cI 0, cI 0, cB false, cI 0, cI 0, cI 0, cI 0]))], .one (.ptr 2 _)⟩ :: ⟨[(3, some (.box [cI 0, .val (.slice none 0 0), .val (.slice none 0 0)]))], .one (.ptr 3 _)⟩ :: ⟨[], .one .any⟩ :: ⟨[], .one .any⟩ :: []) (by decide) rfl ?hk7x ?hf7x ?ho7x ?hv7x ?hr7x
    case ho7x =>
     refine ⟨.inr ⟨[], [], (by decide +kernel), (by decide +kernel), ⟨?_, .inr (.inl rfl), .inl rfl⟩⟩, ?_⟩
     · refine .inr (.inr fun S hle hfr => ?_)
       exact .inl ⟨w0, st_move (hle.e rfl) (hle.d rfl)⟩
     refine ⟨.inr ⟨0 :: [], [], (by decide +kernel), (by decide +kernel), ⟨?_, .inr (.inl rfl), .inl rfl⟩⟩, ?_⟩
     · refine .inr (.inr fun S hle hfr => ?_)
       exact .inl ⟨w0, ev_nilc (hle.e rfl) (hle.d rfl)⟩
     refine ⟨.inr ⟨1 :: 0 :: [], [], (by decide +kernel), (by decide +kernel), ⟨?_, .inr (.inl rfl), .inl rfl⟩⟩, ?_⟩
     · refine .inr (.inr fun S hle hfr => ?_)
       exact .inl ⟨w0, ev_field (hle.e rfl) rfl (hle.d rfl)⟩
     refine ⟨.inr ⟨2 :: 1 :: 0 :: [], [], (by decide +kernel), (by decide +kernel), ⟨?_, .inr (.inl rfl), .inl rfl⟩⟩, ?_⟩
     · refine .inr (.inr fun S hle hfr => ?_)
       exact .inl ⟨w0, ev_index_arr (hle.e rfl) (hle.e rfl) rfl rfl (hle.d rfl)⟩
     refine ⟨.inr ⟨3 :: 2 :: 1 :: 0 :: [], [], (by decide +kernel), (by decide +kernel), ⟨?_, .inr (.inl rfl), .inl rfl⟩⟩, ?_⟩
     · refine .inr (.inr fun S hle hfr => ?_)
       exact .inl ⟨w0, ev_loads (ds := [_, _, _, _, _, _]) (hle.e rfl) (hle.heap _ _ rfl) rfl rfl (hle.d rfl)⟩
     refine ⟨.inr ⟨[], [], (by decide +kernel), (by decide +kernel), ⟨?_, .inr (.inl rfl), .inl rfl⟩⟩, ?_⟩
     · refine .inr (.inr fun S hle hfr => ?_)
       exact .inl ⟨w0, st_move (hle.e rfl) (hle.d rfl)⟩
     refine ⟨.inr ⟨5 :: [], [], (by decide +kernel), (by decide +kernel), ⟨?_, .inr (.inl rfl), .inl rfl⟩⟩, ?_⟩
     · refine .inr (.inr fun S hle hfr => ?_)
       exact .inl ⟨w0, ev_nilc (hle.e rfl) (hle.d rfl)⟩
     refine ⟨.inr ⟨6 :: 5 :: [], [], (by decide +kernel), (by decide +kernel), ⟨?_, .inr (.inl rfl), .inl rfl⟩⟩, ?_⟩
     · refine .inr (.inr fun S hle hfr => ?_)
       exact .inl ⟨w0, ev_field (hle.e rfl) rfl (hle.d rfl)⟩
     refine ⟨.inr ⟨7 :: 6 :: 5 :: [], [], (by decide +kernel), (by decide +kernel), ⟨?_, .inr (.inl rfl), .inl rfl⟩⟩, ?_⟩
     · refine .inr (.inr fun S hle hfr => ?_)
       exact .inl ⟨w0, ev_index_arr (hle.e rfl) (hle.e rfl) rfl rfl (hle.d rfl)⟩
     refine ⟨.inr ⟨8 :: 7 :: 6 :: 5 :: [], [], (by decide +kernel), (by decide +kernel), ⟨?_, .inr (.inl rfl), .inl rfl⟩⟩, ?_⟩
     · refine .inr (.inr fun S hle hfr => ?_)
       exact .inl ⟨w0, ev_loads (ds := [_, _, _, _, _, _]) (hle.e rfl) (hle.heap _ _ rfl) rfl rfl (hle.d rfl)⟩
     refine ⟨.inr ⟨4 :: 9 :: 3 :: 8 :: 2 :: 7 :: 1 :: 6 :: 0 :: 5 :: [], [], (by decide +kernel), (by decide +kernel), ⟨?_, .inr (.inl rfl), .inl rfl⟩⟩, ?_⟩
     · refine .inr (.inr fun S hle hfr => ?_)
       exact .inl ⟨w0, ev_call_v (store_Recover_fn k x1_0.1.Disks.x0 x1_0.1.Disks.x1 x2 hx2) (map_ev (.cons (hle.e rfl) (.cons (hle.e rfl) (.nil)))) [] (by repeat' (first | exact .nil | refine .cons ?_ ?_ | refine .one ?_ | refine .agg ?_ | exact .mk rfl | exact .lend (hle.heap _ _ rfl) (by simp) | exact .le (.nil _) rfl | exact .le (.emp _) rfl | exact .le (.any _) rfl | fail)) rfl rfl rfl (.inl rfl) (hle.d rfl)⟩
     refine ⟨.inr ⟨10 :: 4 :: 9 :: 3 :: 8 :: 2 :: 7 :: 1 :: 6 :: 0 :: 5 :: [], [], (by decide +kernel), (by decide +kernel), ⟨?_, .inr (.inl rfl), .inl rfl⟩⟩, ?_⟩
     · refine .inr (.inr fun S hle hfr => ?_)
       exact .inl ⟨w0, st_movet (hle.e rfl) (hle.d rfl)⟩
     refine ⟨.inr ⟨11 :: 10 :: 4 :: 9 :: 3 :: 8 :: 2 :: 7 :: 1 :: 6 :: 0 :: 5 :: [], [], (by decide +kernel), (by decide +kernel), ⟨?_, .inr (.inl rfl), .inl rfl⟩⟩, ?_⟩
     · refine .inr (.inr fun S hle hfr => ?_)
       exact .inl ⟨w0, ev_extract (hle.e rfl) rfl (hle.d rfl)⟩
     refine ⟨.inr ⟨11 :: 10 :: 4 :: 9 :: 3 :: 8 :: 2 :: 7 :: 1 :: 6 :: 0 :: 5 :: [], [], (by decide +kernel), (by decide +kernel), ⟨?_, ?_, .inl rfl⟩⟩, ?_⟩
     · refine .inr (.inr fun S hle hfr => ?_)
       exact .inl ⟨w0, ev_extract (hle.e rfl) rfl (hle.d rfl)⟩
     · refine .inr (.inr fun S hle hfr => ?_)
       exact .inl ⟨w0, ev_extract (hle.e rfl) rfl (hle.d rfl)⟩
     refine ⟨.inr ⟨11 :: 10 :: 4 :: 9 :: 3 :: 8 :: 2 :: 7 :: 1 :: 6 :: 0 :: 5 :: [], [], (by decide +kernel), (by decide +kernel), ⟨?_, ?_, ?_⟩⟩, ?_⟩
     · refine .inr (.inr fun S hle hfr => ?_)
       exact .inl ⟨w0, ev_extract (hle.e rfl) rfl (hle.d rfl)⟩
     · refine .inr (.inr fun S hle hfr => ?_)
       exact .inl ⟨w0, ev_extract (hle.e rfl) rfl (hle.d rfl)⟩
     · refine .inr fun S hle hfr => ?_
       exact .inl ⟨w0, ev_extract (hle.e rfl) rfl (hle.d rfl)⟩
     refine ⟨.inr ⟨[], [], (by decide +kernel), (by decide +kernel), ⟨?_, .inr (.inl rfl), .inl rfl⟩⟩, ?_⟩
     · refine .inr (.inr fun S hle hfr => ?_)
       exact .inl ⟨w0, st_alloc (cs := [.val (.slice none 0 0), cI 0, cB false, cI 0, cI 0, cB false, .val (.slice none 0 0), cI 0, cB false, cI 0, cI 0, cB false, cI 0, cI 0, cI 0, cI 0]) 2 (hfr _ (List.mem_singleton.2 rfl)) rfl rfl rfl (hle.d rfl)⟩
     refine ⟨.inr ⟨[], [], (by decide +kernel), (by decide +kernel), ⟨?_, .inr (.inl rfl), .inl rfl⟩⟩, ?_⟩
     · refine .inr (.inr fun S hle hfr => ?_)
       exact .inl ⟨w0, st_alloc (cs := [cI 0, .val (.slice none 0 0), .val (.slice none 0 0)]) 3 (hfr _ (List.mem_singleton.2 rfl)) rfl rfl rfl (hle.d rfl)⟩
     refine ⟨.inl rfl, ?_⟩
     refine ⟨.inl rfl, ?_⟩
     exact trivial
    case hv7x =>
     refine ⟨⟨rfl, rfl, (by decide +kernel), rfl, rfl, _, _, rfl, rfl, rfl, fun S hle => st_store (cs' := [_, _, _, _, _, _, _, _, _, _, _, _, _, _, _, _]) (hle.e rfl) (hle.heap _ _ rfl) (hle.e rfl) rfl rfl rfl rfl (hle.d rfl) rfl⟩, ?_⟩
     refine ⟨⟨rfl, rfl, (by decide +kernel), rfl, rfl, _, _, rfl, rfl, rfl, fun S hle => st_store (cs' := [_, _, _]) (hle.e rfl) (hle.heap _ _ rfl) (hle.e rfl) rfl rfl rfl rfl (hle.d rfl) rfl⟩, ?_⟩
     exact trivial
    case hk7x => rfl
    case hf7x => rfl
    refine s_sa ?_
    refine aops_nil ?_
    obtain ⟨x3, hx3, h⟩ := Md.bind_s h
    refine aw_seq ?_
    apply aw_draw_over 19 [(17, [15, 12, 10, 0, 1, 2, 3, 4, 5, 6, 7, 8, 9, 11, 16], 4, (c_Store x3.1)), (18, [16, 13, 17, 0, 1, 2, 3, 4, 5, 6, 7, 8, 9, 10, 11, 12, 15], 5, (c_StoreContents x3.2.1))] ((⟨[], .one (.ptr 1 _)⟩ : Add) :: ⟨[], .one (.ptr 1 _)⟩ :: ⟨[], .one (.ptr 1 _)⟩ :: ⟨[], .one (.ptr 1 _)⟩ :: ⟨[], .agg (c_Disk x1_0.2.Disks.x0)⟩ :: ⟨[], .one (.ptr 1 _)⟩ :: ⟨[], .one (.ptr 1 _)⟩ :: ⟨[], .one (.ptr 1 _)⟩ :: ⟨[], .one (.ptr 1 _)⟩ :: ⟨[], .agg (c_Disk x1_0.2.Disks.x1)⟩ :: ⟨[], .tup [.agg (c_Store x3.1), .agg (c_StoreContents x3.2.1), vI x3.2.2]⟩ :: ⟨[], .tup [.agg (c_Store x3.1), .agg (c_StoreContents x3.2.1), vI x3.2.2]⟩ :: ⟨[], .agg (c_Store x3.1)⟩ :: ⟨[], .agg (c_StoreContents x3.2.1)⟩ :: ⟨[], vI x3.2.2⟩ :: ⟨[(4, some (.box [.val (.slice none 0 0), cI 0, cB false, cI 0, cI 0, cB false, .val (.slice none 0 0), cI 0, cB false, cI 0, cI 0, cB false, cI 0, cI 0, cI 0, cI 0]))], .one (.ptr 4 _)⟩ :: ⟨[(5, some (.box [cI 0, .val (.slice none 0 0), .val (.slice none 0 0)]))], .one (.ptr 5 _)⟩ :: ⟨[], .one .any⟩ :: ⟨[], .one .any⟩ :: []) (by decide) rfl ?hk8x ?hf8x ?ho8x ?hv8x ?hr8x
    case ho8x =>
     refine ⟨.inr ⟨[], [], (by decide +kernel), (by decide +kernel), ⟨?_, .inr (.inl rfl), .inl rfl⟩⟩, ?_⟩
     · refine .inr (.inr fun S hle hfr => ?_)
       exact .inl ⟨w0, st_move (hle.e rfl) (hle.d rfl)⟩
     refine ⟨.inr ⟨0 :: [], [], (by decide +kernel), (by decide +kernel), ⟨?_, .inr (.inl rfl), .inl rfl⟩⟩, ?_⟩
     · refine .inr (.inr fun S hle hfr => ?_)
       exact .inl ⟨w0, ev_nilc (hle.e rfl) (hle.d rfl)⟩
     refine ⟨.inr ⟨1 :: 0 :: [], [], (by decide +kernel), (by decide +kernel), ⟨?_, .inr (.inl rfl), .inl rfl⟩⟩, ?_⟩
     · refine .inr (.inr fun S hle hfr => ?_)
       exact .inl ⟨w0, ev_field (hle.e rfl) rfl (hle.d rfl)⟩
     refine ⟨.inr ⟨2 :: 1 :: 0 :: [], [], (by decide +kernel), (by decide +kernel), ⟨?_, .inr (.inl rfl), .inl rfl⟩⟩, ?_⟩
     · refine .inr (.inr fun S hle hfr => ?_)
       exact .inl ⟨w0, ev_index_arr (hle.e rfl) (hle.e rfl) rfl rfl (hle.d rfl)⟩
     refine ⟨.inr ⟨3 :: 2 :: 1 :: 0 :: [], [], (by decide +kernel), (by decide +kernel), ⟨?_, .inr (.inl rfl), .inl rfl⟩⟩, ?_⟩
     · refine .inr (.inr fun S hle hfr => ?_)
       exact .inl ⟨w0, ev_loads (ds := [_, _, _, _, _, _]) (hle.e rfl) (hle.heap _ _ rfl) rfl rfl (hle.d rfl)⟩
     refine ⟨.inr ⟨[], [], (by decide +kernel), (by decide +kernel), ⟨?_, .inr (.inl rfl), .inl rfl⟩⟩, ?_⟩
     · refine .inr (.inr fun S hle hfr => ?_)
       exact .inl ⟨w0, st_move (hle.e rfl) (hle.d rfl)⟩
     refine ⟨.inr ⟨5 :: [], [], (by decide +kernel), (by decide +kernel), ⟨?_, .inr (.inl rfl), .inl rfl⟩⟩, ?_⟩
     · refine .inr (.inr fun S hle hfr => ?_)
       exact .inl ⟨w0, ev_nilc (hle.e rfl) (hle.d rfl)⟩
     refine ⟨.inr ⟨6 :: 5 :: [], [], (by decide +kernel), (by decide +kernel), ⟨?_, .inr (.inl rfl), .inl rfl⟩⟩, ?_⟩
     · refine .inr (.inr fun S hle hfr => ?_)
       exact .inl ⟨w0, ev_field (hle.e rfl) rfl (hle.d rfl)⟩
     refine ⟨.inr ⟨7 :: 6 :: 5 :: [], [], (by decide +kernel), (by decide +kernel), ⟨?_, .inr (.inl rfl), .inl rfl⟩⟩, ?_⟩
     · refine .inr (.inr fun S hle hfr => ?_)
       exact .inl ⟨w0, ev_index_arr (hle.e rfl) (hle.e rfl) rfl rfl (hle.d rfl)⟩
     refine ⟨.inr ⟨8 :: 7 :: 6 :: 5 :: [], [], (by decide +kernel), (by decide +kernel), ⟨?_, .inr (.inl rfl), .inl rfl⟩⟩, ?_⟩
     · refine .inr (.inr fun S hle hfr => ?_)
       exact .inl ⟨w0, ev_loads (ds := [_, _, _, _, _, _]) (hle.e rfl) (hle.heap _ _ rfl) rfl rfl (hle.d rfl)⟩
     refine ⟨.inr ⟨4 :: 9 :: 3 :: 8 :: 2 :: 7 :: 1 :: 6 :: 0 :: 5 :: [], [], (by decide +kernel), (by decide +kernel), ⟨?_, .inr (.inl rfl), .inl rfl⟩⟩, ?_⟩
     · refine .inr (.inr fun S hle hfr => ?_)
       exact .inl ⟨w0, ev_call_v (actorgridref26_RecoverStore_fn k x1_0.2.Disks.x0 x1_0.2.Disks.x1 x3 hx3) (map_ev (.cons (hle.e rfl) (.cons (hle.e rfl) (.nil)))) [] (by repeat' (first | exact .nil | refine .cons ?_ ?_ | refine .one ?_ | refine .agg ?_ | exact .mk rfl | exact .lend (hle.heap _ _ rfl) (by simp) | exact .le (.nil _) rfl | exact .le (.emp _) rfl | exact .le (.any _) rfl | fail)) rfl rfl rfl (.inl rfl) (hle.d rfl)⟩
     refine ⟨.inr ⟨10 :: 4 :: 9 :: 3 :: 8 :: 2 :: 7 :: 1 :: 6 :: 0 :: 5 :: [], [], (by decide +kernel), (by decide +kernel), ⟨?_, .inr (.inl rfl), .inl rfl⟩⟩, ?_⟩
     · refine .inr (.inr fun S hle hfr => ?_)
       exact .inl ⟨w0, st_movet (hle.e rfl) (hle.d rfl)⟩
     refine ⟨.inr ⟨11 :: 10 :: 4 :: 9 :: 3 :: 8 :: 2 :: 7 :: 1 :: 6 :: 0 :: 5 :: [], [], (by decide +kernel), (by decide +kernel), ⟨?_, .inr (.inl rfl), .inl rfl⟩⟩, ?_⟩
     · refine .inr (.inr fun S hle hfr => ?_)
       exact .inl ⟨w0, ev_extract (hle.e rfl) rfl (hle.d rfl)⟩
     refine ⟨.inr ⟨11 :: 10 :: 4 :: 9 :: 3 :: 8 :: 2 :: 7 :: 1 :: 6 :: 0 :: 5 :: [], [], (by decide +kernel), (by decide +kernel), ⟨?_, ?_, .inl rfl⟩⟩, ?_⟩
     · refine .inr (.inr fun S hle hfr => ?_)
       exact .inl ⟨w0, ev_extract (hle.e rfl) rfl (hle.d rfl)⟩
     · refine .inr (.inr fun S hle hfr => ?_)
       exact .inl ⟨w0, ev_extract (hle.e rfl) rfl (hle.d rfl)⟩
     refine ⟨.inr ⟨11 :: 10 :: 4 :: 9 :: 3 :: 8 :: 2 :: 7 :: 1 :: 6 :: 0 :: 5 :: [], [], (by decide +kernel), (by decide +kernel), ⟨?_, ?_, ?_⟩⟩, ?_⟩
     · refine .inr (.inr fun S hle hfr => ?_)
       exact .inl ⟨w0, ev_extract (hle.e rfl) rfl (hle.d rfl)⟩
     · refine .inr (.inr fun S hle hfr => ?_)
       exact .inl ⟨w0, ev_extract (hle.e rfl) rfl (hle.d rfl)⟩
     · refine .inr fun S hle hfr => ?_
       exact .inl ⟨w0, ev_extract (hle.e rfl) rfl (hle.d rfl)⟩
     refine ⟨.inr ⟨[], [], (by decide +kernel), (by decide +kernel), ⟨?_, .inr (.inl rfl), .inl rfl⟩⟩, ?_⟩
     · refine .inr (.inr fun S hle hfr => ?_)
       exact .inl ⟨w0, st_alloc (cs := [.val (.slice none 0 0), cI 0, cB false, cI 0, cI 0, cB false, .val (.slice none 0 0), cI 0, cB false, cI 0, cI 0, cB false, cI 0, cI 0, cI 0, cI 0]) 4 (hfr _ (List.mem_singleton.2 rfl)) rfl rfl rfl (hle.d rfl)⟩
     refine ⟨.inr ⟨[], [], (by decide +kernel), (by decide +kernel), ⟨?_, .inr (.inl rfl), .inl rfl⟩⟩, ?_⟩
     · refine .inr (.inr fun S hle hfr => ?_)
       exact .inl ⟨w0, st_alloc (cs := [cI 0, .val (.slice none 0 0), .val (.slice none 0 0)]) 5 (hfr _ (List.mem_singleton.2 rfl)) rfl rfl rfl (hle.d rfl)⟩
     refine ⟨.inl rfl, ?_⟩
     refine ⟨.inl rfl, ?_⟩
     exact trivial
    case hv8x =>
     refine ⟨⟨rfl, rfl, (by decide +kernel), rfl, rfl, _, _, rfl, rfl, rfl, fun S hle => st_store (cs' := [_, _, _, _, _, _, _, _, _, _, _, _, _, _, _, _]) (hle.e rfl) (hle.heap _ _ rfl) (hle.e rfl) rfl rfl rfl rfl (hle.d rfl) rfl⟩, ?_⟩
     refine ⟨⟨rfl, rfl, (by decide +kernel), rfl, rfl, _, _, rfl, rfl, rfl, fun S hle => st_store (cs' := [_, _, _]) (hle.e rfl) (hle.heap _ _ rfl) (hle.e rfl) rfl rfl rfl rfl (hle.d rfl) rfl⟩, ?_⟩
     exact trivial
    case hk8x => rfl
    case hf8x => rfl
    refine s_sa ?_
    refine aops_nil (aw_seq (aw_seq (aw_region (s_ls [_, _, _, _, _, _, _, _, _, _, _, _, _, _, _, _] ?_))))
    refine s_mv ?_
    refine s_ls [_, _, _, _, _, _, _, _, _, _, _, _, _, _, _, _] ?_
    refine s_mv ?_
    obtain ⟨x4, hx4, h⟩ := Md.bind_s h
    refine aops_step1 rfl (ev_call_v (actorgridlaw28_same_fn k x2.1 x2.2.2 x3.1 x3.2.2 x4 hx4) rfl [] ai rfl rfl rfl (.inl rfl) rfl) (s_nt ?_)
    refine s_mv ?_
    obtain ⟨o5, j5, h⟩ := Md.bind_s h
    refine aops_cut 5 (ε := Bool) (fun x5 => (⟨115, [0, 1], [(0, .one (.ptr 0 0)), (1, .one (.ptr 1 0)), (10, .one (.ptr 2 0)), (12, vI x2.2.2), (13, .one (.ptr 4 0)), (106, vB x5)], [(0, some (.box (c_Store x1_0.1))), (1, some (.box (c_Store x1_0.2))), (2, some (.box (c_Store x2.1))), (4, some (.box (c_Store x3.1)))]⟩ : ASt)) (fun x5 => x5 = o5) ?_ ?_
    · intro x5 hI5
      subst hI5
      change AOps _ _ _ (⟨115, [0, 1], [(0, .one (.ptr 0 0)), (1, .one (.ptr 1 0)), (10, .one (.ptr 2 0)), (12, vI x2.2.2), (13, .one (.ptr 4 0)), (106, vB x5)], [(0, some (.box (c_Store x1_0.1))), (1, some (.box (c_Store x1_0.2))), (2, some (.box (c_Store x2.1))), (4, some (.box (c_Store x3.1)))]⟩ : ASt) _
      refine aops_nil ?_
      refine aw_cond rfl (fun c6 => ?_) (fun c6 => ?_)
      · replace h := Md.cond_t h c6
        refine aw_seq (aw_region (s_sa ?_))
        refine aops_nil ?_
        cases Option.some.inj h
        refine aw_ret ⟨rfl, ret_b (bs := [(c_Store x1_0.1), (c_Store x1_0.2)]) r1 rfl rfl rfl rfl rfl (by intro i cs h; rcases i with _ | _ | i <;> simp at h <;> (subst h; rfl)) ?_⟩
        (repeat' (first | exact .refl _ | exact .nil | refine .tup ?_ | refine .v ?_ | refine .cons ?_ ?_ | refine .agg ?_ | refine .one ?_ | exact .nil _ | exact .emp _ | refine .val ?_ | refine .slc ?_ ?_ | fail))
      replace h := Md.cond_f h c6
      refine aw_skip (aw_seq (aw_seq (aw_region (s_mv ?_))))
      refine s_cm ?_
      refine aops_nil ?_
      refine aw_cond rfl (fun c7 => ?_) (fun c7 => ?_)
      · replace h := Md.cond_t h c7
        apply aw_draw_stores 6 [(5, [4, 2, 0], 0, (c_Store x2.1))] ((⟨[], .one (.ptr 0 _)⟩ : Add) :: ⟨[], .one (.ptr 1 _)⟩ :: ⟨[], .agg (c_Store x2.1)⟩ :: ⟨[], .agg (c_Store x3.1)⟩ :: ⟨[], .one (.ptr 0 _)⟩ :: ⟨[], .one .any⟩ :: []) (by decide) rfl ?hk9x ?hf9x ?ho9x ?hv9x ?hr9x
        case ho9x =>
         refine ⟨.inr ⟨[], [], (by decide +kernel), (by decide +kernel), ⟨?_, .inl rfl⟩⟩, ?_⟩
         · refine .inr (.inr fun S hle hfr => ?_)
           exact .inl ⟨w0, st_move (hle.e rfl) (hle.d rfl)⟩
         refine ⟨.inr ⟨[], [], (by decide +kernel), (by decide +kernel), ⟨?_, ?_⟩⟩, ?_⟩
         · refine .inr (.inr fun S hle hfr => ?_)
           exact .inl ⟨w0, st_move (hle.e rfl) (hle.d rfl)⟩
         · refine .inr fun S hle hfr => ?_
           exact .inl ⟨w0, st_move (hle.e rfl) (hle.d rfl)⟩
         refine ⟨.inr ⟨[], [], (by decide +kernel), (by decide +kernel), ⟨?_, .inl rfl⟩⟩, ?_⟩
         · refine .inr (.inr fun S hle hfr => ?_)
           exact .inl ⟨w0, ev_loads (ds := [_, _, _, _, _, _, _, _, _, _, _, _, _, _, _, _]) (hle.e rfl) (hle.heap _ _ rfl) rfl rfl (hle.d rfl)⟩
         refine ⟨.inr ⟨[], [], (by decide +kernel), (by decide +kernel), ⟨?_, ?_⟩⟩, ?_⟩
         · refine .inr (.inr fun S hle hfr => ?_)
           exact .inl ⟨w0, ev_loads (ds := [_, _, _, _, _, _, _, _, _, _, _, _, _, _, _, _]) (hle.e rfl) (hle.heap _ _ rfl) rfl rfl (hle.d rfl)⟩
         · refine .inr fun S hle hfr => ?_
           exact .inl ⟨w0, ev_loads (ds := [_, _, _, _, _, _, _, _, _, _, _, _, _, _, _, _]) (hle.e rfl) (hle.heap _ _ rfl) rfl rfl (hle.d rfl)⟩
         refine ⟨.inr ⟨0 :: 2 :: [], [], (by decide +kernel), (by decide +kernel), ⟨?_, .inl rfl⟩⟩, ?_⟩
         · refine .inr (.inr fun S hle hfr => ?_)
           exact .inl ⟨w0, ev_nilc (hle.e rfl) (hle.d rfl)⟩
         refine ⟨.inl rfl, ?_⟩
         exact trivial
        case hv9x =>
         refine ⟨⟨rfl, rfl, (by decide +kernel), rfl, rfl, _, _, rfl, rfl, rfl, fun S hle => st_store (cs' := [_, _, _, _, _, _, _, _, _, _, _, _, _, _, _, _]) (hle.e rfl) (hle.heap _ _ rfl) (hle.e rfl) rfl rfl rfl rfl (hle.d rfl) rfl⟩, ?_⟩
         exact trivial
        case hk9x => rfl
        case hf9x => rfl
        refine aops_step1 rfl (ev_nilc rfl rfl) (s_st [_, _, _, _, _, _, _, _, _, _, _, _, _, _, _, _] ?_)
        refine aops_nil (aw_seq (aw_region (s_sa ?_)))
        refine aops_nil ?_
        cases Option.some.inj h
        refine aw_ret ⟨rfl, ret_b (bs := [(c_Store x2.1), (c_Store x3.1)]) r1 rfl rfl rfl rfl rfl (by intro i cs h; rcases i with _ | _ | i <;> simp at h <;> (subst h; rfl)) ?_⟩
        (repeat' (first | exact .refl _ | exact .nil | refine .tup ?_ | refine .v ?_ | refine .cons ?_ ?_ | refine .agg ?_ | refine .one ?_ | exact .nil _ | exact .emp _ | refine .val ?_ | refine .slc ?_ ?_ | fail))
      replace h := Md.cond_f h c7
      refine aw_skip (aw_seq (aw_region (s_sa ?_)))
      refine aops_nil ?_
      cases Option.some.inj h
      refine aw_ret ⟨rfl, ret_b (bs := [(c_Store x1_0.1), (c_Store x1_0.2)]) r1 rfl rfl rfl rfl rfl (by intro i cs h; rcases i with _ | _ | i <;> simp at h <;> (subst h; rfl)) ?_⟩
      (repeat' (first | exact .refl _ | exact .nil | refine .tup ?_ | refine .v ?_ | refine .cons ?_ ?_ | refine .agg ?_ | refine .one ?_ | exact .nil _ | exact .emp _ | refine .val ?_ | refine .slc ?_ ?_ | fail))
    rcases Md.bool_or ((!x4)) with q5 | q5
    · replace j5 := Md.cond_t j5 q5
      iterate 4 refine np q5 ?_
      refine s_py q5 ?_
      refine aops_nil ?_
      show ∃ _x : Bool, _ = _ ∧ Weak _ _
      exact ⟨true, Option.some.inj j5, wk⟩
    replace j5 := Md.cond_f j5 q5
    refine aops_yes rfl rfl rfl rfl q5 (ev_loads (ds := [_, _, _]) rfl rfl rfl rfl rfl) ?_
    refine aops_yes rfl rfl rfl rfl q5 (ev_loads (ds := [_, _, _]) rfl rfl rfl rfl rfl) ?_
    obtain ⟨x8, hx8, j5⟩ := Md.bind_s j5
    refine aops_yes rfl rfl rfl rfl q5 (ev_call_v (actorgridref26_SameContents_fn k x2.2.1 x3.2.1 x8 hx8) rfl [] ai rfl rfl rfl (.inl rfl) rfl) (y_nt q5 ?_)
    refine s_pn q5 ?_
    refine aops_nil ?_
    show ∃ _x : Bool, _ = _ ∧ Weak _ _
    exact ⟨(!x8), Option.some.inj j5, wk⟩
  intro p1
  obtain ⟨⟨n1, s1_0, s1_1, s1_2⟩, l1⟩ := p1
  change AW _ _ (⟨115, [0, 1], [(0, .one (.ptr 0 0)), (1, .one (.ptr 1 0)), (5, vI ((s1_0 : Nat) : Int))], [(0, some (.box (c_Store s1_1))), (1, some (.box (c_Store s1_2)))]⟩ : ASt) _
  replace l1 : actorgridlaw28_restart_loop1 k n1 s1_0 s1_1 s1_2 = some o1 := l1
  rcases n1 with _ | n1
  · exact absurd (show none = some o1 from l1) nofun
  rw [actorgridlaw28_restart_loop1] at l1
  refine aw_seq (aw_seq (aw_region (s_mv ?_)))
  refine s_cm ?_
  refine aops_nil ?_
  refine aw_cond rfl (fun c9 => ?_) (fun c9 => ?_)
  · replace l1 := Md.cond_t l1 c9
    refine aw_skip ?_
    obtain ⟨o10, j10, l1⟩ := Md.bind_s l1
    refine aw_cut (ε := (Store × Store)) (fun x => (⟨115, [0, 1], [(0, .one (.ptr 0 0)), (1, .one (.ptr 1 0)), (5, vI ((s1_0 : Nat) : Int))], [(0, some (.box (c_Store x.1))), (1, some (.box (c_Store x.2)))]⟩ : ASt)) (fun x => Sum.inl x = o10) ?_ ?_
    · intro x10_0 hI10
      subst hI10
      replace l1 := Md.onS_l l1
      change AW _ _ (⟨115, [0, 1], [(0, .one (.ptr 0 0)), (1, .one (.ptr 1 0)), (5, vI ((s1_0 : Nat) : Int))], [(0, some (.box (c_Store x10_0.1))), (1, some (.box (c_Store x10_0.2)))]⟩ : ASt) _
      refine aw_region (s_mv ?_)
      obtain ⟨g11, l1⟩ := Md.ifp_s l1
      refine aops_step1 rfl (ev_add rfl rfl rfl (Md.nat_add g11)) (s_sa ?_)
      refine aops_nil ?_
      exact ⟨⟨(n1, (s1_0 + 1), x10_0.1, x10_0.2), l1⟩, Nat.lt_succ_self _, wk⟩
    refine aw_block (aw_seq (aw_region ?_))
    iterate 2 refine s_mv ?_
    refine aops_step1 rfl (ev_nilc rfl rfl) (s_fd ?_)
    rcases Md.bool_or ((decide (((s1_0 : Nat) : Int) = 0))) with q12 | q12
    · replace j10 := Md.cond_t j10 q12
      refine aops_step1 rfl (ev_index_arr (j := 0) rfl rfl (of_decide_eq_true q12) rfl rfl) (s_ls [_, _, _, _, _, _] ?_)
      obtain ⟨x13, hx13, j10⟩ := Md.bind_s j10
      refine aops_step1 rfl (ev_call_v (disk_Restart_fn k s1_1.Disks.x0 x13 hx13) rfl [] ai rfl rfl rfl (.inl rfl) rfl) (s_mt ?_)
      iterate 2 refine s_ex ?_
      refine aops_step1 rfl (st_alloc (cs := [.val (.slice none 0 0), cI 0, cB false, cI 0, cI 0, cB false]) 2 rfl rfl rfl rfl rfl) (s_st [_, _, _, _, _, _] ?_)
      refine s_sa ?_
      refine aops_nil (aw_seq (aw_region ?_))
      iterate 2 refine s_mv ?_
      refine aops_step1 rfl (ev_nilc rfl rfl) (s_fd ?_)
      refine aops_step1 rfl (ev_index_arr (j := 0) rfl rfl (of_decide_eq_true q12) rfl rfl) (s_ls [_, _, _, _, _, _] ?_)
      obtain ⟨x14, hx14, j10⟩ := Md.bind_s j10
      refine aops_step1 rfl (ev_call_v (actorgridref26_Restart_fn k s1_2.Disks.x0 x14 hx14) rfl [] ai rfl rfl rfl (.inl rfl) rfl) (s_mt ?_)
      iterate 2 refine s_ex ?_
      refine aops_step1 rfl (st_alloc (cs := [.val (.slice none 0 0), cI 0, cB false, cI 0, cI 0, cB false]) 3 rfl rfl rfl rfl rfl) (s_st [_, _, _, _, _, _] ?_)
      refine s_sa ?_
      refine aops_nil (aw_seq (aw_seq (aw_region ?_)))
      iterate 2 refine s_mv ?_
      refine s_cm ?_
      refine s_mv ?_
      refine aops_mid 3 (⟨115, [0, 1], [(0, .one (.ptr 0 0)), (1, .one (.ptr 1 0)), (5, vI ((s1_0 : Nat) : Int)), (6, .one (.ptr 2 0)), (8, .one (.ptr 3 0)), (46, vB ((x13.2 != x14.2) || (x13.2 != 0)))], [(0, some (.box (c_Store s1_1))), (1, some (.box (c_Store s1_2))), (2, some (.box (c_Disk x13.1))), (3, some (.box (c_Disk x14.1)))]⟩ : ASt) ?_ ?_
      · rcases Md.bool_or ((x13.2 != x14.2)) with q15 | q15
        · skip
          iterate 2 refine np q15 ?_
          refine s_py q15 ?_
          refine aops_nil ?_
          exact wq q15
        refine y_mv q15 ?_
        refine y_cm q15 ?_
        refine s_pn q15 ?_
        refine aops_nil ?_
        exact wq q15
      refine s_mv ?_
      obtain ⟨o16, j16, j10⟩ := Md.bind_s j10
      refine aops_cut 5 (ε := Bool) (fun x16 => (⟨115, [0, 1], [(0, .one (.ptr 0 0)), (1, .one (.ptr 1 0)), (5, vI ((s1_0 : Nat) : Int)), (6, .one (.ptr 2 0)), (8, .one (.ptr 3 0)), (52, vB x16)], [(0, some (.box (c_Store s1_1))), (1, some (.box (c_Store s1_2))), (2, some (.box (c_Disk x13.1))), (3, some (.box (c_Disk x14.1)))]⟩ : ASt)) (fun x16 => x16 = o16) ?_ ?_
      · intro x16 hI16
        subst hI16
        change AOps _ _ _ (⟨115, [0, 1], [(0, .one (.ptr 0 0)), (1, .one (.ptr 1 0)), (5, vI ((s1_0 : Nat) : Int)), (6, .one (.ptr 2 0)), (8, .one (.ptr 3 0)), (52, vB x16)], [(0, some (.box (c_Store s1_1))), (1, some (.box (c_Store s1_2))), (2, some (.box (c_Disk x13.1))), (3, some (.box (c_Disk x14.1)))]⟩ : ASt) _
        refine aops_nil ?_
        refine aw_cond rfl (fun c17 => ?_) (fun c17 => ?_)
        · replace j10 := Md.cond_t j10 c17
          refine aw_seq (aw_region (s_sa ?_))
          refine aops_nil ?_
          cases Option.some.inj j10
          replace l1 := Md.onS_r l1
          cases Option.some.inj l1
          replace h := Md.onS_r h
          cases Option.some.inj h
          refine aw_ret ⟨rfl, ret_b (bs := [(c_Store s1_1), (c_Store s1_2)]) r1 rfl rfl rfl rfl rfl (by intro i cs h; rcases i with _ | _ | i <;> simp at h <;> (subst h; rfl)) ?_⟩
          (repeat' (first | exact .refl _ | exact .nil | refine .tup ?_ | refine .v ?_ | refine .cons ?_ ?_ | refine .agg ?_ | refine .one ?_ | exact .nil _ | exact .emp _ | refine .val ?_ | refine .slc ?_ ?_ | fail))
        replace j10 := Md.cond_f j10 c17
        refine aw_skip ?_
        apply aw_draw_stores 12 [(9, [8, 4, 0, 1, 7, 6], 0, (c_Disk x13.1 ++ c_Disk s1_1.Disks.x1 ++ [cI s1_1.Current, cI s1_1.Number, cI s1_1.Base, cI s1_1.Count]))] ((⟨[], .one (.ptr 0 _)⟩ : Add) :: ⟨[], vI ((s1_0 : Nat) : Int)⟩ :: ⟨[], .one (.ptr 1 _)⟩ :: ⟨[], vI ((s1_0 : Nat) : Int)⟩ :: ⟨[], .agg (c_Disk x13.1)⟩ :: ⟨[], .agg (c_Disk x14.1)⟩ :: ⟨[], .one (.ptr 0 _)⟩ :: ⟨[], .one (.ptr 0 _)⟩ :: ⟨[], .one (.ptr 0 _)⟩ :: ⟨[], .one .any⟩ :: ⟨[], .one (.ptr 1 _)⟩ :: ⟨[], .one (.ptr 1 _)⟩ :: []) (by decide) rfl ?hk12x ?hf12x ?ho12x ?hv12x ?hr12x
        case ho12x =>
         refine ⟨.inr ⟨[], [], (by decide +kernel), (by decide +kernel), ⟨?_, .inl rfl⟩⟩, ?_⟩
         · refine .inr (.inr fun S hle hfr => ?_)
           exact .inl ⟨w0, st_move (hle.e rfl) (hle.d rfl)⟩
         refine ⟨.inr ⟨[], [], (by decide +kernel), (by decide +kernel), ⟨?_, .inl rfl⟩⟩, ?_⟩
         · refine .inr (.inr fun S hle hfr => ?_)
           exact .inl ⟨w0, st_move (hle.e rfl) (hle.d rfl)⟩
         refine ⟨.inr ⟨[], [], (by decide +kernel), (by decide +kernel), ⟨?_, ?_⟩⟩, ?_⟩
         · refine .inr (.inr fun S hle hfr => ?_)
           exact .inl ⟨w0, st_move (hle.e rfl) (hle.d rfl)⟩
         · refine .inr fun S hle hfr => ?_
           exact .inl ⟨w0, st_move (hle.e rfl) (hle.d rfl)⟩
         refine ⟨.inr ⟨[], [], (by decide +kernel), (by decide +kernel), ⟨?_, ?_⟩⟩, ?_⟩
         · refine .inr (.inr fun S hle hfr => ?_)
           exact .inl ⟨w0, st_move (hle.e rfl) (hle.d rfl)⟩
         · refine .inr fun S hle hfr => ?_
           exact .inl ⟨w0, st_move (hle.e rfl) (hle.d rfl)⟩
         refine ⟨.inr ⟨[], [], (by decide +kernel), (by decide +kernel), ⟨?_, .inl rfl⟩⟩, ?_⟩
         · refine .inr (.inr fun S hle hfr => ?_)
           exact .inl ⟨w0, ev_loads (ds := [_, _, _, _, _, _]) (hle.e rfl) (hle.heap _ _ rfl) rfl rfl (hle.d rfl)⟩
         refine ⟨.inr ⟨[], [], (by decide +kernel), (by decide +kernel), ⟨?_, ?_⟩⟩, ?_⟩
         · refine .inr (.inr fun S hle hfr => ?_)
           exact .inl ⟨w0, ev_loads (ds := [_, _, _, _, _, _]) (hle.e rfl) (hle.heap _ _ rfl) rfl rfl (hle.d rfl)⟩
         · refine .inr fun S hle hfr => ?_
           exact .inl ⟨w0, ev_loads (ds := [_, _, _, _, _, _]) (hle.e rfl) (hle.heap _ _ rfl) rfl rfl (hle.d rfl)⟩
         refine ⟨.inr ⟨0 :: [], [], (by decide +kernel), (by decide +kernel), ⟨?_, .inl rfl⟩⟩, ?_⟩
         · refine .inr (.inr fun S hle hfr => ?_)
           exact .inl ⟨w0, ev_nilc (hle.e rfl) (hle.d rfl)⟩
         refine ⟨.inr ⟨6 :: 0 :: [], [], (by decide +kernel), (by decide +kernel), ⟨?_, .inl rfl⟩⟩, ?_⟩
         · refine .inr (.inr fun S hle hfr => ?_)
           exact .inl ⟨w0, ev_field (hle.e rfl) rfl (hle.d rfl)⟩
         refine ⟨.inr ⟨7 :: 1 :: 0 :: 4 :: 6 :: [], [], (by decide +kernel), (by decide +kernel), ⟨?_, .inl rfl⟩⟩, ?_⟩
         · refine .inr (.inr fun S hle hfr => ?_)
           exact .inl ⟨w0, ev_index_arr (j := 0) (hle.e rfl) (hle.e rfl) (of_decide_eq_true q12) rfl (hle.d rfl)⟩
         refine ⟨.inl rfl, ?_⟩
         refine ⟨.inr ⟨2 :: [], [], (by decide +kernel), (by decide +kernel), ⟨?_, ?_⟩⟩, ?_⟩
         · refine .inr (.inr fun S hle hfr => ?_)
           exact .inl ⟨w0, ev_nilc (hle.e rfl) (hle.d rfl)⟩
         · refine .inr fun S hle hfr => ?_
           exact .inl ⟨w0, ev_nilc (hle.e rfl) (hle.d rfl)⟩
         refine ⟨.inr ⟨10 :: 2 :: [], [], (by decide +kernel), (by decide +kernel), ⟨?_, ?_⟩⟩, ?_⟩
         · refine .inr (.inr fun S hle hfr => ?_)
           exact .inl ⟨w0, ev_field (hle.e rfl) rfl (hle.d rfl)⟩
         · refine .inr fun S hle hfr => ?_
           exact .inl ⟨w0, ev_field (hle.e rfl) rfl (hle.d rfl)⟩
         exact trivial
        case hv12x =>
         refine ⟨⟨rfl, rfl, (by decide +kernel), rfl, rfl, _, _, rfl, rfl, rfl, fun S hle => st_store (cs' := [_, _, _, _, _, _, _, _, _, _, _, _, _, _, _, _]) (hle.e rfl) (hle.heap _ _ rfl) (hle.e rfl) rfl rfl rfl rfl (hle.d rfl) rfl⟩, ?_⟩
         exact trivial
        case hk12x => rfl
        case hf12x => rfl
        refine aops_step1 rfl (ev_index_arr (j := 0) rfl rfl (of_decide_eq_true q12) rfl rfl) (s_st [_, _, _, _, _, _, _, _, _, _, _, _, _, _, _, _] ?_)
        refine aops_nil ?_
        show ∃ _x : Store × Store, _ = _ ∧ Weak _ _
        exact ⟨((⟨(⟨x13.1, s1_1.Disks.x1⟩ : Arr2Disk), s1_1.Current, s1_1.Number, s1_1.Base, s1_1.Count⟩ : Store), (⟨(⟨x14.1, s1_2.Disks.x1⟩ : Arr2Disk), s1_2.Current, s1_2.Number, s1_2.Base, s1_2.Count⟩ : Store)), Option.some.inj j10, wk⟩
      rcases Md.bool_or (((x13.2 != x14.2) || (x13.2 != 0))) with q16 | q16
      · replace j16 := Md.cond_t j16 q16
        iterate 4 refine np q16 ?_
        refine s_py q16 ?_
        refine aops_nil ?_
        show ∃ _x : Bool, _ = _ ∧ Weak _ _
        exact ⟨true, Option.some.inj j16, wk⟩
      replace j16 := Md.cond_f j16 q16
      refine aops_yes rfl rfl rfl rfl q16 (ev_loads (ds := [_, _, _, _, _, _]) rfl rfl rfl rfl rfl) ?_
      refine aops_yes rfl rfl rfl rfl q16 (ev_loads (ds := [_, _, _, _, _, _]) rfl rfl rfl rfl rfl) ?_
      obtain ⟨x18, hx18, j16⟩ := Md.bind_s j16
      refine aops_yes rfl rfl rfl rfl q16 (ev_call_v (actorgridref26_SameDisk_fn k x13.1 x14.1 x18 hx18) rfl [] ai rfl rfl rfl (.inl rfl) rfl) (y_nt q16 ?_)
      refine s_pn q16 ?_
      refine aops_nil ?_
      show ∃ _x : Bool, _ = _ ∧ Weak _ _
      exact ⟨(!x18), Option.some.inj j16, wk⟩
    replace j10 := Md.cond_f j10 q12
    obtain ⟨g19, j10⟩ := Md.ifp_s j10
    refine aops_step1 rfl (ev_index_arr (j := 1) rfl rfl g19 rfl rfl) (s_ls [_, _, _, _, _, _] ?_)
    obtain ⟨x20, hx20, j10⟩ := Md.bind_s j10
    refine aops_step1 rfl (ev_call_v (disk_Restart_fn k s1_1.Disks.x1 x20 hx20) rfl [] ai rfl rfl rfl (.inl rfl) rfl) (s_mt ?_)
    iterate 2 refine s_ex ?_
    refine aops_step1 rfl (st_alloc (cs := [.val (.slice none 0 0), cI 0, cB false, cI 0, cI 0, cB false]) 2 rfl rfl rfl rfl rfl) (s_st [_, _, _, _, _, _] ?_)
    refine s_sa ?_
    refine aops_nil (aw_seq (aw_region ?_))
    iterate 2 refine s_mv ?_
    refine aops_step1 rfl (ev_nilc rfl rfl) (s_fd ?_)
    obtain ⟨g21, j10⟩ := Md.ifp_s j10
    refine aops_step1 rfl (ev_index_arr (j := 1) rfl rfl g21 rfl rfl) (s_ls [_, _, _, _, _, _] ?_)
    obtain ⟨x22, hx22, j10⟩ := Md.bind_s j10
    refine aops_step1 rfl (ev_call_v (actorgridref26_Restart_fn k s1_2.Disks.x1 x22 hx22) rfl [] ai rfl rfl rfl (.inl rfl) rfl) (s_mt ?_)
    iterate 2 refine s_ex ?_
    refine aops_step1 rfl (st_alloc (cs := [.val (.slice none 0 0), cI 0, cB false, cI 0, cI 0, cB false]) 3 rfl rfl rfl rfl rfl) (s_st [_, _, _, _, _, _] ?_)
    refine s_sa ?_
    refine aops_nil (aw_seq (aw_seq (aw_region ?_)))
    iterate 2 refine s_mv ?_
    refine s_cm ?_
    refine s_mv ?_
    refine aops_mid 3 (⟨115, [0, 1], [(0, .one (.ptr 0 0)), (1, .one (.ptr 1 0)), (5, vI ((s1_0 : Nat) : Int)), (6, .one (.ptr 2 0)), (8, .one (.ptr 3 0)), (46, vB ((x20.2 != x22.2) || (x20.2 != 0)))], [(0, some (.box (c_Store s1_1))), (1, some (.box (c_Store s1_2))), (2, some (.box (c_Disk x20.1))), (3, some (.box (c_Disk x22.1)))]⟩ : ASt) ?_ ?_
    · rcases Md.bool_or ((x20.2 != x22.2)) with q23 | q23
      · skip
        iterate 2 refine np q23 ?_
        refine s_py q23 ?_
        refine aops_nil ?_
        exact wq q23
      refine y_mv q23 ?_
      refine y_cm q23 ?_
      refine s_pn q23 ?_
      refine aops_nil ?_
      exact wq q23
    refine s_mv ?_
    obtain ⟨o24, j24, j10⟩ := Md.bind_s j10
    refine aops_cut 5 (ε := Bool) (fun x24 => (⟨115, [0, 1], [(0, .one (.ptr 0 0)), (1, .one (.ptr 1 0)), (5, vI ((s1_0 : Nat) : Int)), (6, .one (.ptr 2 0)), (8, .one (.ptr 3 0)), (52, vB x24)], [(0, some (.box (c_Store s1_1))), (1, some (.box (c_Store s1_2))), (2, some (.box (c_Disk x20.1))), (3, some (.box (c_Disk x22.1)))]⟩ : ASt)) (fun x24 => x24 = o24) ?_ ?_
    · intro x24 hI24
      subst hI24
      change AOps _ _ _ (⟨115, [0, 1], [(0, .one (.ptr 0 0)), (1, .one (.ptr 1 0)), (5, vI ((s1_0 : Nat) : Int)), (6, .one (.ptr 2 0)), (8, .one (.ptr 3 0)), (52, vB x24)], [(0, some (.box (c_Store s1_1))), (1, some (.box (c_Store s1_2))), (2, some (.box (c_Disk x20.1))), (3, some (.box (c_Disk x22.1)))]⟩ : ASt) _
      refine aops_nil ?_
      refine aw_cond rfl (fun c25 => ?_) (fun c25 => ?_)
      · replace j10 := Md.cond_t j10 c25
        refine aw_seq (aw_region (s_sa ?_))
        refine aops_nil ?_
        cases Option.some.inj j10
        replace l1 := Md.onS_r l1
        cases Option.some.inj l1
        replace h := Md.onS_r h
        cases Option.some.inj h
        refine aw_ret ⟨rfl, ret_b (bs := [(c_Store s1_1), (c_Store s1_2)]) r1 rfl rfl rfl rfl rfl (by intro i cs h; rcases i with _ | _ | i <;> simp at h <;> (subst h; rfl)) ?_⟩
        (repeat' (first | exact .refl _ | exact .nil | refine .tup ?_ | refine .v ?_ | refine .cons ?_ ?_ | refine .agg ?_ | refine .one ?_ | exact .nil _ | exact .emp _ | refine .val ?_ | refine .slc ?_ ?_ | fail))
      replace j10 := Md.cond_f j10 c25
      refine aw_skip ?_
      obtain ⟨g26, j10⟩ := Md.ifp_s j10
      obtain ⟨g27, j10⟩ := Md.ifp_s j10
      apply aw_draw_stores 12 [(9, [8, 4, 0, 1, 7, 6], 0, (c_Disk s1_1.Disks.x0 ++ c_Disk x20.1 ++ [cI s1_1.Current, cI s1_1.Number, cI s1_1.Base, cI s1_1.Count]))] ((⟨[], .one (.ptr 0 _)⟩ : Add) :: ⟨[], vI ((s1_0 : Nat) : Int)⟩ :: ⟨[], .one (.ptr 1 _)⟩ :: ⟨[], vI ((s1_0 : Nat) : Int)⟩ :: ⟨[], .agg (c_Disk x20.1)⟩ :: ⟨[], .agg (c_Disk x22.1)⟩ :: ⟨[], .one (.ptr 0 _)⟩ :: ⟨[], .one (.ptr 0 _)⟩ :: ⟨[], .one (.ptr 0 _)⟩ :: ⟨[], .one .any⟩ :: ⟨[], .one (.ptr 1 _)⟩ :: ⟨[], .one (.ptr 1 _)⟩ :: []) (by decide) rfl ?hk13x ?hf13x ?ho13x ?hv13x ?hr13x
      case ho13x =>
       refine ⟨.inr ⟨[], [], (by decide +kernel), (by decide +kernel), ⟨?_, .inl rfl⟩⟩, ?_⟩
       · refine .inr (.inr fun S hle hfr => ?_)
         exact .inl ⟨w0, st_move (hle.e rfl) (hle.d rfl)⟩
       refine ⟨.inr ⟨[], [], (by decide +kernel), (by decide +kernel), ⟨?_, .inl rfl⟩⟩, ?_⟩
       · refine .inr (.inr fun S hle hfr => ?_)
         exact .inl ⟨w0, st_move (hle.e rfl) (hle.d rfl)⟩
       refine ⟨.inr ⟨[], [], (by decide +kernel), (by decide +kernel), ⟨?_, ?_⟩⟩, ?_⟩
       · refine .inr (.inr fun S hle hfr => ?_)
         exact .inl ⟨w0, st_move (hle.e rfl) (hle.d rfl)⟩
       · refine .inr fun S hle hfr => ?_
         exact .inl ⟨w0, st_move (hle.e rfl) (hle.d rfl)⟩
       refine ⟨.inr ⟨[], [], (by decide +kernel), (by decide +kernel), ⟨?_, ?_⟩⟩, ?_⟩
       · refine .inr (.inr fun S hle hfr => ?_)
         exact .inl ⟨w0, st_move (hle.e rfl) (hle.d rfl)⟩
       · refine .inr fun S hle hfr => ?_
         exact .inl ⟨w0, st_move (hle.e rfl) (hle.d rfl)⟩
       refine ⟨.inr ⟨[], [], (by decide +kernel), (by decide +kernel), ⟨?_, .inl rfl⟩⟩, ?_⟩
       · refine .inr (.inr fun S hle hfr => ?_)
         exact .inl ⟨w0, ev_loads (ds := [_, _, _, _, _, _]) (hle.e rfl) (hle.heap _ _ rfl) rfl rfl (hle.d rfl)⟩
       refine ⟨.inr ⟨[], [], (by decide +kernel), (by decide +kernel), ⟨?_, ?_⟩⟩, ?_⟩
       · refine .inr (.inr fun S hle hfr => ?_)
         exact .inl ⟨w0, ev_loads (ds := [_, _, _, _, _, _]) (hle.e rfl) (hle.heap _ _ rfl) rfl rfl (hle.d rfl)⟩
       · refine .inr fun S hle hfr => ?_
         exact .inl ⟨w0, ev_loads (ds := [_, _, _, _, _, _]) (hle.e rfl) (hle.heap _ _ rfl) rfl rfl (hle.d rfl)⟩
       refine ⟨.inr ⟨0 :: [], [], (by decide +kernel), (by decide +kernel), ⟨?_, .inl rfl⟩⟩, ?_⟩
       · refine .inr (.inr fun S hle hfr => ?_)
         exact .inl ⟨w0, ev_nilc (hle.e rfl) (hle.d rfl)⟩
       refine ⟨.inr ⟨6 :: 0 :: [], [], (by decide +kernel), (by decide +kernel), ⟨?_, .inl rfl⟩⟩, ?_⟩
       · refine .inr (.inr fun S hle hfr => ?_)
         exact .inl ⟨w0, ev_field (hle.e rfl) rfl (hle.d rfl)⟩
       refine ⟨.inr ⟨7 :: 1 :: 0 :: 4 :: 6 :: [], [], (by decide +kernel), (by decide +kernel), ⟨?_, .inl rfl⟩⟩, ?_⟩
       · refine .inr (.inr fun S hle hfr => ?_)
         exact .inl ⟨w0, ev_index_arr (j := 1) (hle.e rfl) (hle.e rfl) g26 rfl (hle.d rfl)⟩
       refine ⟨.inl rfl, ?_⟩
       refine ⟨.inr ⟨2 :: [], [], (by decide +kernel), (by decide +kernel), ⟨?_, ?_⟩⟩, ?_⟩
       · refine .inr (.inr fun S hle hfr => ?_)
         exact .inl ⟨w0, ev_nilc (hle.e rfl) (hle.d rfl)⟩
       · refine .inr fun S hle hfr => ?_
         exact .inl ⟨w0, ev_nilc (hle.e rfl) (hle.d rfl)⟩
       refine ⟨.inr ⟨10 :: 2 :: [], [], (by decide +kernel), (by decide +kernel), ⟨?_, ?_⟩⟩, ?_⟩
       · refine .inr (.inr fun S hle hfr => ?_)
         exact .inl ⟨w0, ev_field (hle.e rfl) rfl (hle.d rfl)⟩
       · refine .inr fun S hle hfr => ?_
         exact .inl ⟨w0, ev_field (hle.e rfl) rfl (hle.d rfl)⟩
       exact trivial
      case hv13x =>
       refine ⟨⟨rfl, rfl, (by decide +kernel), rfl, rfl, _, _, rfl, rfl, rfl, fun S hle => st_store (cs' := [_, _, _, _, _, _, _, _, _, _, _, _, _, _, _, _]) (hle.e rfl) (hle.heap _ _ rfl) (hle.e rfl) rfl rfl rfl rfl (hle.d rfl) rfl⟩, ?_⟩
       exact trivial
      case hk13x => rfl
      case hf13x => rfl
      refine aops_step1 rfl (ev_index_arr (j := 1) rfl rfl g27 rfl rfl) (s_st [_, _, _, _, _, _, _, _, _, _, _, _, _, _, _, _] ?_)
      refine aops_nil ?_
      show ∃ _x : Store × Store, _ = _ ∧ Weak _ _
      exact ⟨((⟨(⟨s1_1.Disks.x0, x20.1⟩ : Arr2Disk), s1_1.Current, s1_1.Number, s1_1.Base, s1_1.Count⟩ : Store), (⟨(⟨s1_2.Disks.x0, x22.1⟩ : Arr2Disk), s1_2.Current, s1_2.Number, s1_2.Base, s1_2.Count⟩ : Store)), Option.some.inj j10, wk⟩
    rcases Md.bool_or (((x20.2 != x22.2) || (x20.2 != 0))) with q24 | q24
    · replace j24 := Md.cond_t j24 q24
      iterate 4 refine np q24 ?_
      refine s_py q24 ?_
      refine aops_nil ?_
      show ∃ _x : Bool, _ = _ ∧ Weak _ _
      exact ⟨true, Option.some.inj j24, wk⟩
    replace j24 := Md.cond_f j24 q24
    refine aops_yes rfl rfl rfl rfl q24 (ev_loads (ds := [_, _, _, _, _, _]) rfl rfl rfl rfl rfl) ?_
    refine aops_yes rfl rfl rfl rfl q24 (ev_loads (ds := [_, _, _, _, _, _]) rfl rfl rfl rfl rfl) ?_
    obtain ⟨x28, hx28, j24⟩ := Md.bind_s j24
    refine aops_yes rfl rfl rfl rfl q24 (ev_call_v (actorgridref26_SameDisk_fn k x20.1 x22.1 x28 hx28) rfl [] ai rfl rfl rfl (.inl rfl) rfl) (y_nt q24 ?_)
    refine s_pn q24 ?_
    refine aops_nil ?_
    show ∃ _x : Bool, _ = _ ∧ Weak _ _
    exact ⟨(!x28), Option.some.inj j24, wk⟩
  replace l1 := Md.cond_f l1 c9
  refine aw_exit ?_
  show ∃ _x : Store × Store, _ = _ ∧ Weak _ _
  exact ⟨(s1_1, s1_2), Option.some.inj l1, wk⟩
set_option maxHeartbeats 2000000 in
theorem actorgridlaw28_step_fn (k : Nat) (a0 : Actorgridlaw28Act) (a1 : Store) (a2 : Store) (r : Bool × Store × Store) (h : actorgridlaw28_step k a0 a1 a2 = some r) : FnC Try.prog 57 [.agg (c_Actorgridlaw28Act a0), .one (.ptr 0 0), .one (.ptr 1 0)] (boxesH 0 [(c_Store a1), (c_Store a2)]) (Det (vB r.1) (boxesH 0 [(c_Store r.2.1), (c_Store r.2.2)])) := by
  unfold actorgridlaw28_step at h
  refine fn_intro' 164 Try.func57 rfl rfl rfl (aw_seq (aw_region (aops_step1 rfl (st_box 2 rfl rfl rfl rfl) (s_sa ?_))))
  refine aops_nil (aw_seq (aw_seq (aw_region (s_fd ?_))))
  refine s_ld ?_
  refine aops_step1 rfl (ev_rem rfl rfl rfl (by decide) (Md.rem_u8 a0.Kind (6 : UInt8))) (aops_nil (aw_block (aw_seq (aw_seq (aw_region (s_cm ?_))))))
  refine s_sa ?_
  refine aops_nil ?_
  refine aw_cond rfl (fun c1 => ?_) (fun c1 => ?_)
  · replace h := Md.cond_t h c1
    refine aw_skip (aw_yes rfl (c1) ?_)
    obtain ⟨x2, hx2, h⟩ := Md.bind_s h
    refine aw_seq_mid (⟨164, [0, 1], [(1, .one (.ptr 0 0)), (2, .one (.ptr 1 0)), (3, .one (.ptr 2 0)), (7, .one (.ptr 3 0)), (8, vI x2.2)], [(0, some (.box (c_Store a1))), (1, some (.box (c_Store a2))), (2, some (.box (c_Actorgridlaw28Act a0))), (3, some (.box (c_Store x2.1)))]⟩ : ASt) ?_ ?_
    ·
      apply aw_late 10 8 ((⟨[], .one (.ptr 0 _)⟩ : Add) :: ⟨[], .one (.ptr 0 _)⟩ :: ⟨[], .agg (c_Store a1)⟩ :: ⟨[], .one (.ptr 2 _)⟩ :: ⟨[], .one (CV.ls byC a0.B)⟩ :: ⟨[], .tup [.agg (c_Store x2.1), vI x2.2]⟩ :: ⟨[], .tup [.agg (c_Store x2.1), vI x2.2]⟩ :: ⟨[], .agg (c_Store x2.1)⟩ :: ⟨[], vI x2.2⟩ :: ⟨[(3, some (.box [.val (.slice none 0 0), cI 0, cB false, cI 0, cI 0, cB false, .val (.slice none 0 0), cI 0, cB false, cI 0, cI 0, cB false, cI 0, cI 0, cI 0, cI 0]))], .one (.ptr 3 _)⟩ :: []) (by decide) (by decide) rfl rfl rfl ?hk1x ?hf1x ?ho1x ?hr1x ?hl1x
      case ho1x =>
       refine ob [] (fun S hle hfr => .inl ⟨w0, st_move (hle.e rfl) (hle.d rfl)⟩) (ob [0] (fun S hle hfr => .inl ⟨w0, ev_nilc (hle.e rfl) (hle.d rfl)⟩) ?_)
       refine ob [1, 0] (fun S hle hfr => .inl ⟨w0, ev_loads (ds := [_, _, _, _, _, _, _, _, _, _, _, _, _, _, _, _]) (hle.e rfl) (hle.heap _ _ rfl) rfl rfl (hle.d rfl)⟩) ?_
       refine ob [] (fun S hle hfr => .inl ⟨w0, ev_field (hle.e rfl) rfl (hle.d rfl)⟩) ?_
       refine ob [3] (fun S hle hfr => .inl ⟨w0, ev_load (hle.e rfl) (hle.heap _ _ rfl) rfl (hle.d rfl)⟩) ?_
       refine ob [2, 4, 1, 3, 0] (fun S hle hfr => .inl ⟨w0, ev_call_v (store_Put_fn k a1 a0.B x2 hx2) (map_ev (.cons (hle.e rfl) (.cons (hle.e rfl) (.nil)))) [] (by repeat' (first | exact .nil | refine .cons ?_ ?_ | refine .one ?_ | refine .agg ?_ | exact .mk rfl | exact .lend (hle.heap _ _ rfl) (by simp) | exact .le (.nil _) rfl | exact .le (.emp _) rfl | exact .le (.any _) rfl | fail)) rfl rfl rfl (.inl rfl) (hle.d rfl)⟩) ?_
       refine ob [5, 2, 4, 1, 3, 0] (fun S hle hfr => .inl ⟨w0, st_movet (hle.e rfl) (hle.d rfl)⟩) ?_
       refine ob [6, 5, 2, 4, 1, 3, 0] (fun S hle hfr => .inl ⟨w0, ev_extract (hle.e rfl) rfl (hle.d rfl)⟩) ?_
       refine ob [6, 5, 2, 4, 1, 3, 0] (fun S hle hfr => .inl ⟨w0, ev_extract (hle.e rfl) rfl (hle.d rfl)⟩) ?_
       refine ob [] (fun S hle hfr => .inl ⟨w0, st_alloc (cs := [.val (.slice none 0 0), cI 0, cB false, cI 0, cI 0, cB false, .val (.slice none 0 0), cI 0, cB false, cI 0, cI 0, cB false, cI 0, cI 0, cI 0, cI 0]) 3 (hfr _ (List.mem_singleton.2 rfl)) rfl rfl rfl (hle.d rfl)⟩) ?_
       exact trivial
      case hk1x => rfl
      case hf1x => rfl
      case hr1x =>
       refine s_st [_, _, _, _, _, _, _, _, _, _, _, _, _, _, _, _] ?_
       refine s_sa ?_
       refine aops_nil ?_
       exact wk
      case hl1x =>
       refine s_st [_, _, _, _, _, _, _, _, _, _, _, _, _, _, _, _] ?_
       refine s_ex ?_
       refine s_sa ?_
       refine aops_nil ?_
       exact wk
    obtain ⟨x3, hx3, h⟩ := Md.bind_s h
    refine aw_seq_mid (⟨164, [0, 1], [(1, .one (.ptr 0 0)), (2, .one (.ptr 1 0)), (7, .one (.ptr 3 0)), (8, vI x2.2), (9, .one (.ptr 4 0)), (10, vI x3.2)], [(0, some (.box (c_Store a1))), (1, some (.box (c_Store a2))), (3, some (.box (c_Store x2.1))), (4, some (.box (c_Store x3.1)))]⟩ : ASt) ?_ ?_
    ·
      apply aw_late 10 8 ((⟨[], .one (.ptr 1 _)⟩ : Add) :: ⟨[], .one (.ptr 1 _)⟩ :: ⟨[], .agg (c_Store a2)⟩ :: ⟨[], .one (.ptr 2 _)⟩ :: ⟨[], .one (CV.ls byC a0.B)⟩ :: ⟨[], .tup [.agg (c_Store x3.1), vI x3.2]⟩ :: ⟨[], .tup [.agg (c_Store x3.1), vI x3.2]⟩ :: ⟨[], .agg (c_Store x3.1)⟩ :: ⟨[], vI x3.2⟩ :: ⟨[(4, some (.box [.val (.slice none 0 0), cI 0, cB false, cI 0, cI 0, cB false, .val (.slice none 0 0), cI 0, cB false, cI 0, cI 0, cB false, cI 0, cI 0, cI 0, cI 0]))], .one (.ptr 4 _)⟩ :: []) (by decide) (by decide) rfl rfl rfl ?hk2x ?hf2x ?ho2x ?hr2x ?hl2x
      case ho2x =>
       refine ob [] (fun S hle hfr => .inl ⟨w0, st_move (hle.e rfl) (hle.d rfl)⟩) (ob [0] (fun S hle hfr => .inl ⟨w0, ev_nilc (hle.e rfl) (hle.d rfl)⟩) ?_)
       refine ob [1, 0] (fun S hle hfr => .inl ⟨w0, ev_loads (ds := [_, _, _, _, _, _, _, _, _, _, _, _, _, _, _, _]) (hle.e rfl) (hle.heap _ _ rfl) rfl rfl (hle.d rfl)⟩) ?_
       refine ob [] (fun S hle hfr => .inl ⟨w0, ev_field (hle.e rfl) rfl (hle.d rfl)⟩) ?_
       refine ob [3] (fun S hle hfr => .inl ⟨w0, ev_load (hle.e rfl) (hle.heap _ _ rfl) rfl (hle.d rfl)⟩) ?_
       refine ob [2, 4, 1, 3, 0] (fun S hle hfr => .inl ⟨w0, ev_call_v (actorgridref26_Put_fn k a2 a0.B x3 hx3) (map_ev (.cons (hle.e rfl) (.cons (hle.e rfl) (.nil)))) [] (by repeat' (first | exact .nil | refine .cons ?_ ?_ | refine .one ?_ | refine .agg ?_ | exact .mk rfl | exact .lend (hle.heap _ _ rfl) (by simp) | exact .le (.nil _) rfl | exact .le (.emp _) rfl | exact .le (.any _) rfl | fail)) rfl rfl rfl (.inl rfl) (hle.d rfl)⟩) ?_
       refine ob [5, 2, 4, 1, 3, 0] (fun S hle hfr => .inl ⟨w0, st_movet (hle.e rfl) (hle.d rfl)⟩) ?_
       refine ob [6, 5, 2, 4, 1, 3, 0] (fun S hle hfr => .inl ⟨w0, ev_extract (hle.e rfl) rfl (hle.d rfl)⟩) ?_
       refine ob [6, 5, 2, 4, 1, 3, 0] (fun S hle hfr => .inl ⟨w0, ev_extract (hle.e rfl) rfl (hle.d rfl)⟩) ?_
       refine ob [] (fun S hle hfr => .inl ⟨w0, st_alloc (cs := [.val (.slice none 0 0), cI 0, cB false, cI 0, cI 0, cB false, .val (.slice none 0 0), cI 0, cB false, cI 0, cI 0, cB false, cI 0, cI 0, cI 0, cI 0]) 4 (hfr _ (List.mem_singleton.2 rfl)) rfl rfl rfl (hle.d rfl)⟩) ?_
       exact trivial
      case hk2x => rfl
      case hf2x => rfl
      case hr2x =>
       refine s_st [_, _, _, _, _, _, _, _, _, _, _, _, _, _, _, _] ?_
       refine s_sa ?_
       refine aops_nil ?_
       exact wk
      case hl2x =>
       refine s_st [_, _, _, _, _, _, _, _, _, _, _, _, _, _, _, _] ?_
       refine s_ex ?_
       refine s_sa ?_
       refine aops_nil ?_
       exact wk
    refine aw_seq (aw_seq (aw_region (s_ls [_, _, _, _, _, _, _, _, _, _, _, _, _, _, _, _] ?_)))
    refine s_mv ?_
    refine s_ls [_, _, _, _, _, _, _, _, _, _, _, _, _, _, _, _] ?_
    refine s_mv ?_
    obtain ⟨x4, hx4, h⟩ := Md.bind_s h
    refine aops_step1 rfl (ev_call_v (actorgridlaw28_same_fn k x2.1 x2.2 x3.1 x3.2 x4 hx4) rfl [] ai rfl rfl rfl (.inl rfl) rfl) (s_nt ?_)
    refine aops_nil ?_
    refine aw_cond rfl (fun c5 => ?_) (fun c5 => ?_)
    · replace h := Md.cond_t h c5
      refine aw_seq (aw_region (s_sa ?_))
      refine aops_nil ?_
      cases Option.some.inj h
      refine aw_ret ⟨rfl, ret_b (bs := [(c_Store a1), (c_Store a2)]) r1 rfl rfl rfl rfl rfl (by intro i cs h; rcases i with _ | _ | i <;> simp at h <;> (subst h; rfl)) ?_⟩
      (repeat' (first | exact .refl _ | exact .nil | refine .tup ?_ | refine .v ?_ | refine .cons ?_ ?_ | refine .agg ?_ | refine .one ?_ | exact .nil _ | exact .emp _ | refine .val ?_ | refine .slc ?_ ?_ | fail))
    replace h := Md.cond_f h c5
    refine aw_skip (aw_seq (aw_region (s_mv ?_)))
    refine s_cm ?_
    refine aops_nil ?_
    refine aw_cond rfl (fun c6 => ?_) (fun c6 => ?_)
    · replace h := Md.cond_t h c6
      apply aw_draw_stores 6 [(5, [4, 2, 0], 0, (c_Store x2.1))] ((⟨[], .one (.ptr 0 _)⟩ : Add) :: ⟨[], .one (.ptr 1 _)⟩ :: ⟨[], .agg (c_Store x2.1)⟩ :: ⟨[], .agg (c_Store x3.1)⟩ :: ⟨[], .one (.ptr 0 _)⟩ :: ⟨[], .one .any⟩ :: []) (by decide) rfl ?hk3x ?hf3x ?ho3x ?hv3x ?hr3x
      case ho3x =>
       refine ⟨.inr ⟨[], [], (by decide +kernel), (by decide +kernel), ⟨?_, .inl rfl⟩⟩, ?_⟩
       · refine .inr (.inr fun S hle hfr => ?_)
         exact .inl ⟨w0, st_move (hle.e rfl) (hle.d rfl)⟩
       refine ⟨.inr ⟨[], [], (by decide +kernel), (by decide +kernel), ⟨?_, ?_⟩⟩, ?_⟩
       · refine .inr (.inr fun S hle hfr => ?_)
         exact .inl ⟨w0, st_move (hle.e rfl) (hle.d rfl)⟩
       · refine .inr fun S hle hfr => ?_
         exact .inl ⟨w0, st_move (hle.e rfl) (hle.d rfl)⟩
       refine ⟨.inr ⟨[], [], (by decide +kernel), (by decide +kernel), ⟨?_, .inl rfl⟩⟩, ?_⟩
       · refine .inr (.inr fun S hle hfr => ?_)
         exact .inl ⟨w0, ev_loads (ds := [_, _, _, _, _, _, _, _, _, _, _, _, _, _, _, _]) (hle.e rfl) (hle.heap _ _ rfl) rfl rfl (hle.d rfl)⟩
       refine ⟨.inr ⟨[], [], (by decide +kernel), (by decide +kernel), ⟨?_, ?_⟩⟩, ?_⟩
       · refine .inr (.inr fun S hle hfr => ?_)
         exact .inl ⟨w0, ev_loads (ds := [_, _, _, _, _, _, _, _, _, _, _, _, _, _, _, _]) (hle.e rfl) (hle.heap _ _ rfl) rfl rfl (hle.d rfl)⟩
       · refine .inr fun S hle hfr => ?_
         exact .inl ⟨w0, ev_loads (ds := [_, _, _, _, _, _, _, _, _, _, _, _, _, _, _, _]) (hle.e rfl) (hle.heap _ _ rfl) rfl rfl (hle.d rfl)⟩
       refine ⟨.inr ⟨0 :: 2 :: [], [], (by decide +kernel), (by decide +kernel), ⟨?_, .inl rfl⟩⟩, ?_⟩
       · refine .inr (.inr fun S hle hfr => ?_)
         exact .inl ⟨w0, ev_nilc (hle.e rfl) (hle.d rfl)⟩
       refine ⟨.inl rfl, ?_⟩
       exact trivial
      case hv3x =>
       refine ⟨⟨rfl, rfl, (by decide +kernel), rfl, rfl, _, _, rfl, rfl, rfl, fun S hle => st_store (cs' := [_, _, _, _, _, _, _, _, _, _, _, _, _, _, _, _]) (hle.e rfl) (hle.heap _ _ rfl) (hle.e rfl) rfl rfl rfl rfl (hle.d rfl) rfl⟩, ?_⟩
       exact trivial
      case hk3x => rfl
      case hf3x => rfl
      refine aops_step1 rfl (ev_nilc rfl rfl) (s_st [_, _, _, _, _, _, _, _, _, _, _, _, _, _, _, _] ?_)
      refine aops_nil ?_
      obtain ⟨x7, hx7, h⟩ := Md.bind_s h
      obtain ⟨x8, hx8, h⟩ := Md.bind_s h
      refine aw_seq ?_
      apply aw_draw 7 ((⟨[], .one (.ptr 0 _)⟩ : Add) :: ⟨[], .one (.ptr 0 _)⟩ :: ⟨[], .agg (c_Store x2.1)⟩ :: ⟨[], vB x7⟩ :: ⟨[], .one (.ptr 1 _)⟩ :: ⟨[], .one (.ptr 1 _)⟩ :: ⟨[], .agg (c_Store x3.1)⟩ :: []) (by decide) rfl ?hk4x ?hf4x ?ho4x ?hr4x
      case ho4x =>
       refine ob [] (fun S hle hfr => .inl ⟨w0, st_move (hle.e rfl) (hle.d rfl)⟩) (ob [0] (fun S hle hfr => .inl ⟨w0, ev_nilc (hle.e rfl) (hle.d rfl)⟩) ?_)
       refine ob [1, 0] (fun S hle hfr => .inl ⟨w0, ev_loads (ds := [_, _, _, _, _, _, _, _, _, _, _, _, _, _, _, _]) (hle.e rfl) (hle.heap _ _ rfl) rfl rfl (hle.d rfl)⟩) ?_
       refine ob [2, 1, 0] (fun S hle hfr => .inl ⟨w0, ev_call_v (store_Valid_fn k x2.1 x7 hx7) (map_ev (.cons (hle.e rfl) (.nil))) [] (by repeat' (first | exact .nil | refine .cons ?_ ?_ | refine .one ?_ | refine .agg ?_ | exact .mk rfl | exact .lend (hle.heap _ _ rfl) (by simp) | exact .le (.nil _) rfl | exact .le (.emp _) rfl | exact .le (.any _) rfl | fail)) rfl rfl rfl (.inl rfl) (hle.d rfl)⟩) ?_
       refine ob [] (fun S hle hfr => .inl ⟨w0, st_move (hle.e rfl) (hle.d rfl)⟩) (ob [4] (fun S hle hfr => .inl ⟨w0, ev_nilc (hle.e rfl) (hle.d rfl)⟩) ?_)
       refine ob [5, 4] (fun S hle hfr => .inl ⟨w0, ev_loads (ds := [_, _, _, _, _, _, _, _, _, _, _, _, _, _, _, _]) (hle.e rfl) (hle.heap _ _ rfl) rfl rfl (hle.d rfl)⟩) ?_
       exact trivial
      case hk4x => rfl
      case hf4x => rfl
      refine aops_step1 rfl (ev_call_v (actorgridref26_ValidStore_fn k x3.1 x8 hx8) rfl [] ai rfl rfl rfl (.inl rfl) rfl) ?_
      refine aops_step1 rfl (ev_bool_eq rfl rfl rfl Try.underlying4 rfl) (s_sa ?_)
      refine aops_nil ?_
      cases Option.some.inj h
      refine aw_ret ⟨rfl, ret_b (bs := [(c_Store x2.1), (c_Store x3.1)]) r1 rfl rfl rfl rfl rfl (by intro i cs h; rcases i with _ | _ | i <;> simp at h <;> (subst h; rfl)) ?_⟩
      (repeat' (first | exact .refl _ | exact .nil | refine .tup ?_ | refine .v ?_ | refine .cons ?_ ?_ | refine .agg ?_ | refine .one ?_ | exact .nil _ | exact .emp _ | refine .val ?_ | refine .slc ?_ ?_ | fail))
    replace h := Md.cond_f h c6
    refine aw_skip ?_
    obtain ⟨x9, hx9, h⟩ := Md.bind_s h
    obtain ⟨x10, hx10, h⟩ := Md.bind_s h
    refine aw_seq ?_
    apply aw_draw 7 ((⟨[], .one (.ptr 0 _)⟩ : Add) :: ⟨[], .one (.ptr 0 _)⟩ :: ⟨[], .agg (c_Store a1)⟩ :: ⟨[], vB x9⟩ :: ⟨[], .one (.ptr 1 _)⟩ :: ⟨[], .one (.ptr 1 _)⟩ :: ⟨[], .agg (c_Store a2)⟩ :: []) (by decide) rfl ?hk5x ?hf5x ?ho5x ?hr5x
    case ho5x =>
     refine ob [] (fun S hle hfr => .inl ⟨w0, st_move (hle.e rfl) (hle.d rfl)⟩) (ob [0] (fun S hle hfr => .inl ⟨w0, ev_nilc (hle.e rfl) (hle.d rfl)⟩) ?_)
     refine ob [1, 0] (fun S hle hfr => .inl ⟨w0, ev_loads (ds := [_, _, _, _, _, _, _, _, _, _, _, _, _, _, _, _]) (hle.e rfl) (hle.heap _ _ rfl) rfl rfl (hle.d rfl)⟩) ?_
     refine ob [2, 1, 0] (fun S hle hfr => .inl ⟨w0, ev_call_v (store_Valid_fn k a1 x9 hx9) (map_ev (.cons (hle.e rfl) (.nil))) [] (by repeat' (first | exact .nil | refine .cons ?_ ?_ | refine .one ?_ | refine .agg ?_ | exact .mk rfl | exact .lend (hle.heap _ _ rfl) (by simp) | exact .le (.nil _) rfl | exact .le (.emp _) rfl | exact .le (.any _) rfl | fail)) rfl rfl rfl (.inl rfl) (hle.d rfl)⟩) ?_
     refine ob [] (fun S hle hfr => .inl ⟨w0, st_move (hle.e rfl) (hle.d rfl)⟩) (ob [4] (fun S hle hfr => .inl ⟨w0, ev_nilc (hle.e rfl) (hle.d rfl)⟩) ?_)
     refine ob [5, 4] (fun S hle hfr => .inl ⟨w0, ev_loads (ds := [_, _, _, _, _, _, _, _, _, _, _, _, _, _, _, _]) (hle.e rfl) (hle.heap _ _ rfl) rfl rfl (hle.d rfl)⟩) ?_
     exact trivial
    case hk5x => rfl
    case hf5x => rfl
    refine aops_step1 rfl (ev_call_v (actorgridref26_ValidStore_fn k a2 x10 hx10) rfl [] ai rfl rfl rfl (.inl rfl) rfl) ?_
    refine aops_step1 rfl (ev_bool_eq rfl rfl rfl Try.underlying4 rfl) (s_sa ?_)
    refine aops_nil ?_
    cases Option.some.inj h
    refine aw_ret ⟨rfl, ret_b (bs := [(c_Store a1), (c_Store a2)]) r1 rfl rfl rfl rfl rfl (by intro i cs h; rcases i with _ | _ | i <;> simp at h <;> (subst h; rfl)) ?_⟩
    (repeat' (first | exact .refl _ | exact .nil | refine .tup ?_ | refine .v ?_ | refine .cons ?_ ?_ | refine .agg ?_ | refine .one ?_ | exact .nil _ | exact .emp _ | refine .val ?_ | refine .slc ?_ ?_ | fail))
  replace h := Md.cond_f h c1
  refine aw_seq (aw_region (s_cm ?_))
  refine s_sa ?_
  refine aops_nil ?_
  refine aw_cond rfl (fun c11 => ?_) (fun c11 => ?_)
  · replace h := Md.cond_t h c11
    refine aw_skip (aw_yes rfl (c11) ?_)
    obtain ⟨x12, hx12, h⟩ := Md.bind_s h
    refine aw_seq_mid (⟨164, [0, 1], [(1, .one (.ptr 0 0)), (2, .one (.ptr 1 0)), (3, .one (.ptr 2 0)), (7, .one (.ptr 3 0)), (8, vI x12.2)], [(0, some (.box (c_Store a1))), (1, some (.box (c_Store a2))), (2, some (.box (c_Actorgridlaw28Act a0))), (3, some (.box (c_Store x12.1)))]⟩ : ASt) ?_ ?_
    ·
      apply aw_late 10 8 ((⟨[], .one (.ptr 0 _)⟩ : Add) :: ⟨[], .one (.ptr 0 _)⟩ :: ⟨[], .agg (c_Store a1)⟩ :: ⟨[], .one (.ptr 2 _)⟩ :: ⟨[], .one (CV.ls byC a0.B)⟩ :: ⟨[], .tup [.agg (c_Store x12.1), vI x12.2]⟩ :: ⟨[], .tup [.agg (c_Store x12.1), vI x12.2]⟩ :: ⟨[], .agg (c_Store x12.1)⟩ :: ⟨[], vI x12.2⟩ :: ⟨[(3, some (.box [.val (.slice none 0 0), cI 0, cB false, cI 0, cI 0, cB false, .val (.slice none 0 0), cI 0, cB false, cI 0, cI 0, cB false, cI 0, cI 0, cI 0, cI 0]))], .one (.ptr 3 _)⟩ :: []) (by decide) (by decide) rfl rfl rfl ?hk6x ?hf6x ?ho6x ?hr6x ?hl6x
      case ho6x =>
       refine ob [] (fun S hle hfr => .inl ⟨w0, st_move (hle.e rfl) (hle.d rfl)⟩) (ob [0] (fun S hle hfr => .inl ⟨w0, ev_nilc (hle.e rfl) (hle.d rfl)⟩) ?_)
       refine ob [1, 0] (fun S hle hfr => .inl ⟨w0, ev_loads (ds := [_, _, _, _, _, _, _, _, _, _, _, _, _, _, _, _]) (hle.e rfl) (hle.heap _ _ rfl) rfl rfl (hle.d rfl)⟩) ?_
       refine ob [] (fun S hle hfr => .inl ⟨w0, ev_field (hle.e rfl) rfl (hle.d rfl)⟩) ?_
       refine ob [3] (fun S hle hfr => .inl ⟨w0, ev_load (hle.e rfl) (hle.heap _ _ rfl) rfl (hle.d rfl)⟩) ?_
       refine ob [2, 4, 1, 3, 0] (fun S hle hfr => .inl ⟨w0, ev_call_v (store_Put_fn k a1 a0.B x12 hx12) (map_ev (.cons (hle.e rfl) (.cons (hle.e rfl) (.nil)))) [] (by repeat' (first | exact .nil | refine .cons ?_ ?_ | refine .one ?_ | refine .agg ?_ | exact .mk rfl | exact .lend (hle.heap _ _ rfl) (by simp) | exact .le (.nil _) rfl | exact .le (.emp _) rfl | exact .le (.any _) rfl | fail)) rfl rfl rfl (.inl rfl) (hle.d rfl)⟩) ?_
       refine ob [5, 2, 4, 1, 3, 0] (fun S hle hfr => .inl ⟨w0, st_movet (hle.e rfl) (hle.d rfl)⟩) ?_
       refine ob [6, 5, 2, 4, 1, 3, 0] (fun S hle hfr => .inl ⟨w0, ev_extract (hle.e rfl) rfl (hle.d rfl)⟩) ?_
       refine ob [6, 5, 2, 4, 1, 3, 0] (fun S hle hfr => .inl ⟨w0, ev_extract (hle.e rfl) rfl (hle.d rfl)⟩) ?_
       refine ob [] (fun S hle hfr => .inl ⟨w0, st_alloc (cs := [.val (.slice none 0 0), cI 0, cB false, cI 0, cI 0, cB false, .val (.slice none 0 0), cI 0, cB false, cI 0, cI 0, cB false, cI 0, cI 0, cI 0, cI 0]) 3 (hfr _ (List.mem_singleton.2 rfl)) rfl rfl rfl (hle.d rfl)⟩) ?_
       exact trivial
      case hk6x => rfl
      case hf6x => rfl
      case hr6x =>
       refine s_st [_, _, _, _, _, _, _, _, _, _, _, _, _, _, _, _] ?_
       refine s_sa ?_
       refine aops_nil ?_
       exact wk
      case hl6x =>
       refine s_st [_, _, _, _, _, _, _, _, _, _, _, _, _, _, _, _] ?_
       refine s_ex ?_
       refine s_sa ?_
       refine aops_nil ?_
       exact wk
    obtain ⟨x13, hx13, h⟩ := Md.bind_s h
    refine aw_seq_mid (⟨164, [0, 1], [(1, .one (.ptr 0 0)), (2, .one (.ptr 1 0)), (7, .one (.ptr 3 0)), (8, vI x12.2), (9, .one (.ptr 4 0)), (10, vI x13.2)], [(0, some (.box (c_Store a1))), (1, some (.box (c_Store a2))), (3, some (.box (c_Store x12.1))), (4, some (.box (c_Store x13.1)))]⟩ : ASt) ?_ ?_
    ·
      apply aw_late 10 8 ((⟨[], .one (.ptr 1 _)⟩ : Add) :: ⟨[], .one (.ptr 1 _)⟩ :: ⟨[], .agg (c_Store a2)⟩ :: ⟨[], .one (.ptr 2 _)⟩ :: ⟨[], .one (CV.ls byC a0.B)⟩ :: ⟨[], .tup [.agg (c_Store x13.1), vI x13.2]⟩ :: ⟨[], .tup [.agg (c_Store x13.1), vI x13.2]⟩ :: ⟨[], .agg (c_Store x13.1)⟩ :: ⟨[], vI x13.2⟩ :: ⟨[(4, some (.box [.val (.slice none 0 0), cI 0, cB false, cI 0, cI 0, cB false, .val (.slice none 0 0), cI 0, cB false, cI 0, cI 0, cB false, cI 0, cI 0, cI 0, cI 0]))], .one (.ptr 4 _)⟩ :: []) (by decide) (by decide) rfl rfl rfl ?hk7x ?hf7x ?ho7x ?hr7x ?hl7x
      case ho7x =>
       refine ob [] (fun S hle hfr => .inl ⟨w0, st_move (hle.e rfl) (hle.d rfl)⟩) (ob [0] (fun S hle hfr => .inl ⟨w0, ev_nilc (hle.e rfl) (hle.d rfl)⟩) ?_)
       refine ob [1, 0] (fun S hle hfr => .inl ⟨w0, ev_loads (ds := [_, _, _, _, _, _, _, _, _, _, _, _, _, _, _, _]) (hle.e rfl) (hle.heap _ _ rfl) rfl rfl (hle.d rfl)⟩) ?_
       refine ob [] (fun S hle hfr => .inl ⟨w0, ev_field (hle.e rfl) rfl (hle.d rfl)⟩) ?_
       refine ob [3] (fun S hle hfr => .inl ⟨w0, ev_load (hle.e rfl) (hle.heap _ _ rfl) rfl (hle.d rfl)⟩) ?_
       refine ob [2, 4, 1, 3, 0] (fun S hle hfr => .inl ⟨w0, ev_call_v (actorgridref26_Put_fn k a2 a0.B x13 hx13) (map_ev (.cons (hle.e rfl) (.cons (hle.e rfl) (.nil)))) [] (by repeat' (first | exact .nil | refine .cons ?_ ?_ | refine .one ?_ | refine .agg ?_ | exact .mk rfl | exact .lend (hle.heap _ _ rfl) (by simp) | exact .le (.nil _) rfl | exact .le (.emp _) rfl | exact .le (.any _) rfl | fail)) rfl rfl rfl (.inl rfl) (hle.d rfl)⟩) ?_
       refine ob [5, 2, 4, 1, 3, 0] (fun S hle hfr => .inl ⟨w0, st_movet (hle.e rfl) (hle.d rfl)⟩) ?_
       refine ob [6, 5, 2, 4, 1, 3, 0] (fun S hle hfr => .inl ⟨w0, ev_extract (hle.e rfl) rfl (hle.d rfl)⟩) ?_
       refine ob [6, 5, 2, 4, 1, 3, 0] (fun S hle hfr => .inl ⟨w0, ev_extract (hle.e rfl) rfl (hle.d rfl)⟩) ?_
       refine ob [] (fun S hle hfr => .inl ⟨w0, st_alloc (cs := [.val (.slice none 0 0), cI 0, cB false, cI 0, cI 0, cB false, .val (.slice none 0 0), cI 0, cB false, cI 0, cI 0, cB false, cI 0, cI 0, cI 0, cI 0]) 4 (hfr _ (List.mem_singleton.2 rfl)) rfl rfl rfl (hle.d rfl)⟩) ?_
       exact trivial
      case hk7x => rfl
      case hf7x => rfl
      case hr7x =>
       refine s_st [_, _, _, _, _, _, _, _, _, _, _, _, _, _, _, _] ?_
       refine s_sa ?_
       refine aops_nil ?_
       exact wk
      case hl7x =>
       refine s_st [_, _, _, _, _, _, _, _, _, _, _, _, _, _, _, _] ?_
       refine s_ex ?_
       refine s_sa ?_
       refine aops_nil ?_
       exact wk
    refine aw_seq (aw_seq (aw_region (s_ls [_, _, _, _, _, _, _, _, _, _, _, _, _, _, _, _] ?_)))
    refine s_mv ?_
    refine s_ls [_, _, _, _, _, _, _, _, _, _, _, _, _, _, _, _] ?_
    refine s_mv ?_
    obtain ⟨x14, hx14, h⟩ := Md.bind_s h
    refine aops_step1 rfl (ev_call_v (actorgridlaw28_same_fn k x12.1 x12.2 x13.1 x13.2 x14 hx14) rfl [] ai rfl rfl rfl (.inl rfl) rfl) (s_nt ?_)
    refine aops_nil ?_
    refine aw_cond rfl (fun c15 => ?_) (fun c15 => ?_)
    · replace h := Md.cond_t h c15
      refine aw_seq (aw_region (s_sa ?_))
      refine aops_nil ?_
      cases Option.some.inj h
      refine aw_ret ⟨rfl, ret_b (bs := [(c_Store a1), (c_Store a2)]) r1 rfl rfl rfl rfl rfl (by intro i cs h; rcases i with _ | _ | i <;> simp at h <;> (subst h; rfl)) ?_⟩
      (repeat' (first | exact .refl _ | exact .nil | refine .tup ?_ | refine .v ?_ | refine .cons ?_ ?_ | refine .agg ?_ | refine .one ?_ | exact .nil _ | exact .emp _ | refine .val ?_ | refine .slc ?_ ?_ | fail))
    replace h := Md.cond_f h c15
    refine aw_skip (aw_seq (aw_region (s_mv ?_)))
    refine s_cm ?_
    refine aops_nil ?_
    refine aw_cond rfl (fun c16 => ?_) (fun c16 => ?_)
    · replace h := Md.cond_t h c16
      apply aw_draw_stores 6 [(5, [4, 2, 0], 0, (c_Store x12.1))] ((⟨[], .one (.ptr 0 _)⟩ : Add) :: ⟨[], .one (.ptr 1 _)⟩ :: ⟨[], .agg (c_Store x12.1)⟩ :: ⟨[], .agg (c_Store x13.1)⟩ :: ⟨[], .one (.ptr 0 _)⟩ :: ⟨[], .one .any⟩ :: []) (by decide) rfl ?hk8x ?hf8x ?ho8x ?hv8x ?hr8x
      case ho8x =>
       refine ⟨.inr ⟨[], [], (by decide +kernel), (by decide +kernel), ⟨?_, .inl rfl⟩⟩, ?_⟩
       · refine .inr (.inr fun S hle hfr => ?_)
         exact .inl ⟨w0, st_move (hle.e rfl) (hle.d rfl)⟩
       refine ⟨.inr ⟨[], [], (by decide +kernel), (by decide +kernel), ⟨?_, ?_⟩⟩, ?_⟩
       · refine .inr (.inr fun S hle hfr => ?_)
         exact .inl ⟨w0, st_move (hle.e rfl) (hle.d rfl)⟩
       · refine .inr fun S hle hfr => ?_
         exact .inl ⟨w0, st_move (hle.e rfl) (hle.d rfl)⟩
       refine ⟨.inr ⟨[], [], (by decide +kernel), (by decide +kernel), ⟨?_, .inl rfl⟩⟩, ?_⟩
       · refine .inr (.inr fun S hle hfr => ?_)
         exact .inl ⟨w0, ev_loads (ds := [_, _, _, _, _, _, _, _, _, _, _, _, _, _, _, _]) (hle.e rfl) (hle.heap _ _ rfl) rfl rfl (hle.d rfl)⟩
       refine ⟨.inr ⟨[], [], (by decide +kernel), (by decide +kernel), ⟨?_, ?_⟩⟩, ?_⟩
       · refine .inr (.inr fun S hle hfr => ?_)
         exact .inl ⟨w0, ev_loads (ds := [_, _, _, _, _, _, _, _, _, _, _, _, _, _, _, _]) (hle.e rfl) (hle.heap _ _ rfl) rfl rfl (hle.d rfl)⟩
       · refine .inr fun S hle hfr => ?_
         exact .inl ⟨w0, ev_loads (ds := [_, _, _, _, _, _, _, _, _, _, _, _, _, _, _, _]) (hle.e rfl) (hle.heap _ _ rfl) rfl rfl (hle.d rfl)⟩
       refine ⟨.inr ⟨0 :: 2 :: [], [], (by decide +kernel), (by decide +kernel), ⟨?_, .inl rfl⟩⟩, ?_⟩
       · refine .inr (.inr fun S hle hfr => ?_)
         exact .inl ⟨w0, ev_nilc (hle.e rfl) (hle.d rfl)⟩
       refine ⟨.inl rfl, ?_⟩
       exact trivial
      case hv8x =>
       refine ⟨⟨rfl, rfl, (by decide +kernel), rfl, rfl, _, _, rfl, rfl, rfl, fun S hle => st_store (cs' := [_, _, _, _, _, _, _, _, _, _, _, _, _, _, _, _]) (hle.e rfl) (hle.heap _ _ rfl) (hle.e rfl) rfl rfl rfl rfl (hle.d rfl) rfl⟩, ?_⟩
       exact trivial
      case hk8x => rfl
      case hf8x => rfl
      refine aops_step1 rfl (ev_nilc rfl rfl) (s_st [_, _, _, _, _, _, _, _, _, _, _, _, _, _, _, _] ?_)
      refine aops_nil ?_
      obtain ⟨x17, hx17, h⟩ := Md.bind_s h
      obtain ⟨x18, hx18, h⟩ := Md.bind_s h
      refine aw_seq ?_
      apply aw_draw 7 ((⟨[], .one (.ptr 0 _)⟩ : Add) :: ⟨[], .one (.ptr 0 _)⟩ :: ⟨[], .agg (c_Store x12.1)⟩ :: ⟨[], vB x17⟩ :: ⟨[], .one (.ptr 1 _)⟩ :: ⟨[], .one (.ptr 1 _)⟩ :: ⟨[], .agg (c_Store x13.1)⟩ :: []) (by decide) rfl ?hk9x ?hf9x ?ho9x ?hr9x
      case ho9x =>
       refine ob [] (fun S hle hfr => .inl ⟨w0, st_move (hle.e rfl) (hle.d rfl)⟩) (ob [0] (fun S hle hfr => .inl ⟨w0, ev_nilc (hle.e rfl) (hle.d rfl)⟩) ?_)
       refine ob [1, 0] (fun S hle hfr => .inl ⟨w0, ev_loads (ds := [_, _, _, _, _, _, _, _, _, _, _, _, _, _, _, _]) (hle.e rfl) (hle.heap _ _ rfl) rfl rfl (hle.d rfl)⟩) ?_
       refine ob [2, 1, 0] (fun S hle hfr => .inl ⟨w0, ev_call_v (store_Valid_fn k x12.1 x17 hx17) (map_ev (.cons (hle.e rfl) (.nil))) [] (by repeat' (first | exact .nil | refine .cons ?_ ?_ | refine .one ?_ | refine .agg ?_ | exact .mk rfl | exact .lend (hle.heap _ _ rfl) (by simp) | exact .le (.nil _) rfl | exact .le (.emp _) rfl | exact .le (.any _) rfl | fail)) rfl rfl rfl (.inl rfl) (hle.d rfl)⟩) ?_
       refine ob [] (fun S hle hfr => .inl ⟨w0, st_move (hle.e rfl) (hle.d rfl)⟩) (ob [4] (fun S hle hfr => .inl ⟨w0, ev_nilc (hle.e rfl) (hle.d rfl)⟩) ?_)
       refine ob [5, 4] (fun S hle hfr => .inl ⟨w0, ev_loads (ds := [_, _, _, _, _, _, _, _, _, _, _, _, _, _, _, _]) (hle.e rfl) (hle.heap _ _ rfl) rfl rfl (hle.d rfl)⟩) ?_
       exact trivial
      case hk9x => rfl
      case hf9x => rfl
      refine aops_step1 rfl (ev_call_v (actorgridref26_ValidStore_fn k x13.1 x18 hx18) rfl [] ai rfl rfl rfl (.inl rfl) rfl) ?_
      refine aops_step1 rfl (ev_bool_eq rfl rfl rfl Try.underlying4 rfl) (s_sa ?_)
      refine aops_nil ?_
      cases Option.some.inj h
      refine aw_ret ⟨rfl, ret_b (bs := [(c_Store x12.1), (c_Store x13.1)]) r1 rfl rfl rfl rfl rfl (by intro i cs h; rcases i with _ | _ | i <;> simp at h <;> (subst h; rfl)) ?_⟩
      (repeat' (first | exact .refl _ | exact .nil | refine .tup ?_ | refine .v ?_ | refine .cons ?_ ?_ | refine .agg ?_ | refine .one ?_ | exact .nil _ | exact .emp _ | refine .val ?_ | refine .slc ?_ ?_ | fail))
    replace h := Md.cond_f h c16
    refine aw_skip ?_
    obtain ⟨x19, hx19, h⟩ := Md.bind_s h
    obtain ⟨x20, hx20, h⟩ := Md.bind_s h
    refine aw_seq ?_
    apply aw_draw 7 ((⟨[], .one (.ptr 0 _)⟩ : Add) :: ⟨[], .one (.ptr 0 _)⟩ :: ⟨[], .agg (c_Store a1)⟩ :: ⟨[], vB x19⟩ :: ⟨[], .one (.ptr 1 _)⟩ :: ⟨[], .one (.ptr 1 _)⟩ :: ⟨[], .agg (c_Store a2)⟩ :: []) (by decide) rfl ?hk10x ?hf10x ?ho10x ?hr10x
    case ho10x =>
     refine ob [] (fun S hle hfr => .inl ⟨w0, st_move (hle.e rfl) (hle.d rfl)⟩) (ob [0] (fun S hle hfr => .inl ⟨w0, ev_nilc (hle.e rfl) (hle.d rfl)⟩) ?_)
     refine ob [1, 0] (fun S hle hfr => .inl ⟨w0, ev_loads (ds := [_, _, _, _, _, _, _, _, _, _, _, _, _, _, _, _]) (hle.e rfl) (hle.heap _ _ rfl) rfl rfl (hle.d rfl)⟩) ?_
     refine ob [2, 1, 0] (fun S hle hfr => .inl ⟨w0, ev_call_v (store_Valid_fn k a1 x19 hx19) (map_ev (.cons (hle.e rfl) (.nil))) [] (by repeat' (first | exact .nil | refine .cons ?_ ?_ | refine .one ?_ | refine .agg ?_ | exact .mk rfl | exact .lend (hle.heap _ _ rfl) (by simp) | exact .le (.nil _) rfl | exact .le (.emp _) rfl | exact .le (.any _) rfl | fail)) rfl rfl rfl (.inl rfl) (hle.d rfl)⟩) ?_
     refine ob [] (fun S hle hfr => .inl ⟨w0, st_move (hle.e rfl) (hle.d rfl)⟩) (ob [4] (fun S hle hfr => .inl ⟨w0, ev_nilc (hle.e rfl) (hle.d rfl)⟩) ?_)
     refine ob [5, 4] (fun S hle hfr => .inl ⟨w0, ev_loads (ds := [_, _, _, _, _, _, _, _, _, _, _, _, _, _, _, _]) (hle.e rfl) (hle.heap _ _ rfl) rfl rfl (hle.d rfl)⟩) ?_
     exact trivial
    case hk10x => rfl
    case hf10x => rfl
    refine aops_step1 rfl (ev_call_v (actorgridref26_ValidStore_fn k a2 x20 hx20) rfl [] ai rfl rfl rfl (.inl rfl) rfl) ?_
    refine aops_step1 rfl (ev_bool_eq rfl rfl rfl Try.underlying4 rfl) (s_sa ?_)
    refine aops_nil ?_
    cases Option.some.inj h
    refine aw_ret ⟨rfl, ret_b (bs := [(c_Store a1), (c_Store a2)]) r1 rfl rfl rfl rfl rfl (by intro i cs h; rcases i with _ | _ | i <;> simp at h <;> (subst h; rfl)) ?_⟩
    (repeat' (first | exact .refl _ | exact .nil | refine .tup ?_ | refine .v ?_ | refine .cons ?_ ?_ | refine .agg ?_ | refine .one ?_ | exact .nil _ | exact .emp _ | refine .val ?_ | refine .slc ?_ ?_ | fail))
  replace h := Md.cond_f h c11
  refine aw_region (s_cm ?_)
  refine s_sa ?_
  refine aops_nil ?_
  refine aw_cond rfl (fun c21 => ?_) (fun c21 => ?_)
  · replace h := Md.cond_t h c21
    obtain ⟨x22, hx22, h⟩ := Md.bind_s h
    refine aw_seq_mid (⟨164, [0, 1], [(1, .one (.ptr 0 0)), (2, .one (.ptr 1 0)), (3, .one (.ptr 2 0)), (7, .one (.ptr 3 0)), (8, vI x22.2)], [(0, some (.box (c_Store a1))), (1, some (.box (c_Store a2))), (2, some (.box (c_Actorgridlaw28Act a0))), (3, some (.box (c_Store x22.1)))]⟩ : ASt) ?_ ?_
    ·
      apply aw_late 10 8 ((⟨[], .one (.ptr 0 _)⟩ : Add) :: ⟨[], .one (.ptr 0 _)⟩ :: ⟨[], .agg (c_Store a1)⟩ :: ⟨[], .one (.ptr 2 _)⟩ :: ⟨[], .one (CV.ls byC a0.B)⟩ :: ⟨[], .tup [.agg (c_Store x22.1), vI x22.2]⟩ :: ⟨[], .tup [.agg (c_Store x22.1), vI x22.2]⟩ :: ⟨[], .agg (c_Store x22.1)⟩ :: ⟨[], vI x22.2⟩ :: ⟨[(3, some (.box [.val (.slice none 0 0), cI 0, cB false, cI 0, cI 0, cB false, .val (.slice none 0 0), cI 0, cB false, cI 0, cI 0, cB false, cI 0, cI 0, cI 0, cI 0]))], .one (.ptr 3 _)⟩ :: []) (by decide) (by decide) rfl rfl rfl ?hk11x ?hf11x ?ho11x ?hr11x ?hl11x
      case ho11x =>
       refine ob [] (fun S hle hfr => .inl ⟨w0, st_move (hle.e rfl) (hle.d rfl)⟩) (ob [0] (fun S hle hfr => .inl ⟨w0, ev_nilc (hle.e rfl) (hle.d rfl)⟩) ?_)
       refine ob [1, 0] (fun S hle hfr => .inl ⟨w0, ev_loads (ds := [_, _, _, _, _, _, _, _, _, _, _, _, _, _, _, _]) (hle.e rfl) (hle.heap _ _ rfl) rfl rfl (hle.d rfl)⟩) ?_
       refine ob [] (fun S hle hfr => .inl ⟨w0, ev_field (hle.e rfl) rfl (hle.d rfl)⟩) ?_
       refine ob [3] (fun S hle hfr => .inl ⟨w0, ev_load (hle.e rfl) (hle.heap _ _ rfl) rfl (hle.d rfl)⟩) ?_
       refine ob [2, 4, 1, 3, 0] (fun S hle hfr => .inl ⟨w0, ev_call_v (store_Put_fn k a1 a0.B x22 hx22) (map_ev (.cons (hle.e rfl) (.cons (hle.e rfl) (.nil)))) [] (by repeat' (first | exact .nil | refine .cons ?_ ?_ | refine .one ?_ | refine .agg ?_ | exact .mk rfl | exact .lend (hle.heap _ _ rfl) (by simp) | exact .le (.nil _) rfl | exact .le (.emp _) rfl | exact .le (.any _) rfl | fail)) rfl rfl rfl (.inl rfl) (hle.d rfl)⟩) ?_
       refine ob [5, 2, 4, 1, 3, 0] (fun S hle hfr => .inl ⟨w0, st_movet (hle.e rfl) (hle.d rfl)⟩) ?_
       refine ob [6, 5, 2, 4, 1, 3, 0] (fun S hle hfr => .inl ⟨w0, ev_extract (hle.e rfl) rfl (hle.d rfl)⟩) ?_
       refine ob [6, 5, 2, 4, 1, 3, 0] (fun S hle hfr => .inl ⟨w0, ev_extract (hle.e rfl) rfl (hle.d rfl)⟩) ?_
       refine ob [] (fun S hle hfr => .inl ⟨w0, st_alloc (cs := [.val (.slice none 0 0), cI 0, cB false, cI 0, cI 0, cB false, .val (.slice none 0 0), cI 0, cB false, cI 0, cI 0, cB false, cI 0, cI 0, cI 0, cI 0]) 3 (hfr _ (List.mem_singleton.2 rfl)) rfl rfl rfl (hle.d rfl)⟩) ?_
       exact trivial
      case hk11x => rfl
      case hf11x => rfl
      case hr11x =>
       refine s_st [_, _, _, _, _, _, _, _, _, _, _, _, _, _, _, _] ?_
       refine s_sa ?_
       refine aops_nil ?_
       exact wk
      case hl11x =>
       refine s_st [_, _, _, _, _, _, _, _, _, _, _, _, _, _, _, _] ?_
       refine s_ex ?_
       refine s_sa ?_
       refine aops_nil ?_
       exact wk
    obtain ⟨x23, hx23, h⟩ := Md.bind_s h
    refine aw_seq_mid (⟨164, [0, 1], [(1, .one (.ptr 0 0)), (2, .one (.ptr 1 0)), (7, .one (.ptr 3 0)), (8, vI x22.2), (9, .one (.ptr 4 0)), (10, vI x23.2)], [(0, some (.box (c_Store a1))), (1, some (.box (c_Store a2))), (3, some (.box (c_Store x22.1))), (4, some (.box (c_Store x23.1)))]⟩ : ASt) ?_ ?_
    ·
      apply aw_late 10 8 ((⟨[], .one (.ptr 1 _)⟩ : Add) :: ⟨[], .one (.ptr 1 _)⟩ :: ⟨[], .agg (c_Store a2)⟩ :: ⟨[], .one (.ptr 2 _)⟩ :: ⟨[], .one (CV.ls byC a0.B)⟩ :: ⟨[], .tup [.agg (c_Store x23.1), vI x23.2]⟩ :: ⟨[], .tup [.agg (c_Store x23.1), vI x23.2]⟩ :: ⟨[], .agg (c_Store x23.1)⟩ :: ⟨[], vI x23.2⟩ :: ⟨[(4, some (.box [.val (.slice none 0 0), cI 0, cB false, cI 0, cI 0, cB false, .val (.slice none 0 0), cI 0, cB false, cI 0, cI 0, cB false, cI 0, cI 0, cI 0, cI 0]))], .one (.ptr 4 _)⟩ :: []) (by decide) (by decide) rfl rfl rfl ?hk12x ?hf12x ?ho12x ?hr12x ?hl12x
      case ho12x =>
       refine ob [] (fun S hle hfr => .inl ⟨w0, st_move (hle.e rfl) (hle.d rfl)⟩) (ob [0] (fun S hle hfr => .inl ⟨w0, ev_nilc (hle.e rfl) (hle.d rfl)⟩) ?_)
       refine ob [1, 0] (fun S hle hfr => .inl ⟨w0, ev_loads (ds := [_, _, _, _, _, _, _, _, _, _, _, _, _, _, _, _]) (hle.e rfl) (hle.heap _ _ rfl) rfl rfl (hle.d rfl)⟩) ?_
       refine ob [] (fun S hle hfr => .inl ⟨w0, ev_field (hle.e rfl) rfl (hle.d rfl)⟩) ?_
       refine ob [3] (fun S hle hfr => .inl ⟨w0, ev_load (hle.e rfl) (hle.heap _ _ rfl) rfl (hle.d rfl)⟩) ?_
       refine ob [2, 4, 1, 3, 0] (fun S hle hfr => .inl ⟨w0, ev_call_v (actorgridref26_Put_fn k a2 a0.B x23 hx23) (map_ev (.cons (hle.e rfl) (.cons (hle.e rfl) (.nil)))) [] (by repeat' (first | exact .nil | refine .cons ?_ ?_ | refine .one ?_ | refine .agg ?_ | exact .mk rfl | exact .lend (hle.heap _ _ rfl) (by simp) | exact .le (.nil _) rfl | exact .le (.emp _) rfl | exact .le (.any _) rfl | fail)) rfl rfl rfl (.inl rfl) (hle.d rfl)⟩) ?_
       refine ob [5, 2, 4, 1, 3, 0] (fun S hle hfr => .inl ⟨w0, st_movet (hle.e rfl) (hle.d rfl)⟩) ?_
       refine ob [6, 5, 2, 4, 1, 3, 0] (fun S hle hfr => .inl ⟨w0, ev_extract (hle.e rfl) rfl (hle.d rfl)⟩) ?_
       refine ob [6, 5, 2, 4, 1, 3, 0] (fun S hle hfr => .inl ⟨w0, ev_extract (hle.e rfl) rfl (hle.d rfl)⟩) ?_
       refine ob [] (fun S hle hfr => .inl ⟨w0, st_alloc (cs := [.val (.slice none 0 0), cI 0, cB false, cI 0, cI 0, cB false, .val (.slice none 0 0), cI 0, cB false, cI 0, cI 0, cB false, cI 0, cI 0, cI 0, cI 0]) 4 (hfr _ (List.mem_singleton.2 rfl)) rfl rfl rfl (hle.d rfl)⟩) ?_
       exact trivial
      case hk12x => rfl
      case hf12x => rfl
      case hr12x =>
       refine s_st [_, _, _, _, _, _, _, _, _, _, _, _, _, _, _, _] ?_
       refine s_sa ?_
       refine aops_nil ?_
       exact wk
      case hl12x =>
       refine s_st [_, _, _, _, _, _, _, _, _, _, _, _, _, _, _, _] ?_
       refine s_ex ?_
       refine s_sa ?_
       refine aops_nil ?_
       exact wk
    refine aw_seq (aw_seq (aw_region (s_ls [_, _, _, _, _, _, _, _, _, _, _, _, _, _, _, _] ?_)))
    refine s_mv ?_
    refine s_ls [_, _, _, _, _, _, _, _, _, _, _, _, _, _, _, _] ?_
    refine s_mv ?_
    obtain ⟨x24, hx24, h⟩ := Md.bind_s h
    refine aops_step1 rfl (ev_call_v (actorgridlaw28_same_fn k x22.1 x22.2 x23.1 x23.2 x24 hx24) rfl [] ai rfl rfl rfl (.inl rfl) rfl) (s_nt ?_)
    refine aops_nil ?_
    refine aw_cond rfl (fun c25 => ?_) (fun c25 => ?_)
    · replace h := Md.cond_t h c25
      refine aw_seq (aw_region (s_sa ?_))
      refine aops_nil ?_
      cases Option.some.inj h
      refine aw_ret ⟨rfl, ret_b (bs := [(c_Store a1), (c_Store a2)]) r1 rfl rfl rfl rfl rfl (by intro i cs h; rcases i with _ | _ | i <;> simp at h <;> (subst h; rfl)) ?_⟩
      (repeat' (first | exact .refl _ | exact .nil | refine .tup ?_ | refine .v ?_ | refine .cons ?_ ?_ | refine .agg ?_ | refine .one ?_ | exact .nil _ | exact .emp _ | refine .val ?_ | refine .slc ?_ ?_ | fail))
    replace h := Md.cond_f h c25
    refine aw_skip (aw_seq (aw_region (s_mv ?_)))
    refine s_cm ?_
    refine aops_nil ?_
    refine aw_cond rfl (fun c26 => ?_) (fun c26 => ?_)
    · replace h := Md.cond_t h c26
      apply aw_draw_stores 6 [(5, [4, 2, 0], 0, (c_Store x22.1))] ((⟨[], .one (.ptr 0 _)⟩ : Add) :: ⟨[], .one (.ptr 1 _)⟩ :: ⟨[], .agg (c_Store x22.1)⟩ :: ⟨[], .agg (c_Store x23.1)⟩ :: ⟨[], .one (.ptr 0 _)⟩ :: ⟨[], .one .any⟩ :: []) (by decide) rfl ?hk13x ?hf13x ?ho13x ?hv13x ?hr13x
      case ho13x =>
       refine ⟨.inr ⟨[], [], (by decide +kernel), (by decide +kernel), ⟨?_, .inl rfl⟩⟩, ?_⟩
       · refine .inr (.inr fun S hle hfr => ?_)
         exact .inl ⟨w0, st_move (hle.e rfl) (hle.d rfl)⟩
       refine ⟨.inr ⟨[], [], (by decide +kernel), (by decide +kernel), ⟨?_, ?_⟩⟩, ?_⟩
       · refine .inr (.inr fun S hle hfr => ?_)
         exact .inl ⟨w0, st_move (hle.e rfl) (hle.d rfl)⟩
       · refine .inr fun S hle hfr => ?_
         exact .inl ⟨w0, st_move (hle.e rfl) (hle.d rfl)⟩
       refine ⟨.inr ⟨[], [], (by decide +kernel), (by decide +kernel), ⟨?_, .inl rfl⟩⟩, ?_⟩
       · refine .inr (.inr fun S hle hfr => ?_)
         exact .inl ⟨w0, ev_loads (ds := [_, _, _, _, _, _, _, _, _, _, _, _, _, _, _, _]) (hle.e rfl) (hle.heap _ _ rfl) rfl rfl (hle.d rfl)⟩
       refine ⟨.inr ⟨[], [], (by decide +kernel), (by decide +kernel), ⟨?_, ?_⟩⟩, ?_⟩
       · refine .inr (.inr fun S hle hfr => ?_)
         exact .inl ⟨w0, ev_loads (ds := [_, _, _, _, _, _, _, _, _, _, _, _, _, _, _, _]) (hle.e rfl) (hle.heap _ _ rfl) rfl rfl (hle.d rfl)⟩
       · refine .inr fun S hle hfr => ?_
         exact .inl ⟨w0, ev_loads (ds := [_, _, _, _, _, _, _, _, _, _, _, _, _, _, _, _]) (hle.e rfl) (hle.heap _ _ rfl) rfl rfl (hle.d rfl)⟩
       refine ⟨.inr ⟨0 :: 2 :: [], [], (by decide +kernel), (by decide +kernel), ⟨?_, .inl rfl⟩⟩, ?_⟩
       · refine .inr (.inr fun S hle hfr => ?_)
         exact .inl ⟨w0, ev_nilc (hle.e rfl) (hle.d rfl)⟩
       refine ⟨.inl rfl, ?_⟩
       exact trivial
      case hv13x =>
       refine ⟨⟨rfl, rfl, (by decide +kernel), rfl, rfl, _, _, rfl, rfl, rfl, fun S hle => st_store (cs' := [_, _, _, _, _, _, _, _, _, _, _, _, _, _, _, _]) (hle.e rfl) (hle.heap _ _ rfl) (hle.e rfl) rfl rfl rfl rfl (hle.d rfl) rfl⟩, ?_⟩
       exact trivial
      case hk13x => rfl
      case hf13x => rfl
      refine aops_step1 rfl (ev_nilc rfl rfl) (s_st [_, _, _, _, _, _, _, _, _, _, _, _, _, _, _, _] ?_)
      refine aops_nil ?_
      obtain ⟨x27, hx27, h⟩ := Md.bind_s h
      obtain ⟨x28, hx28, h⟩ := Md.bind_s h
      refine aw_seq ?_
      apply aw_draw 7 ((⟨[], .one (.ptr 0 _)⟩ : Add) :: ⟨[], .one (.ptr 0 _)⟩ :: ⟨[], .agg (c_Store x22.1)⟩ :: ⟨[], vB x27⟩ :: ⟨[], .one (.ptr 1 _)⟩ :: ⟨[], .one (.ptr 1 _)⟩ :: ⟨[], .agg (c_Store x23.1)⟩ :: []) (by decide) rfl ?hk14x ?hf14x ?ho14x ?hr14x
      case ho14x =>
       refine ob [] (fun S hle hfr => .inl ⟨w0, st_move (hle.e rfl) (hle.d rfl)⟩) (ob [0] (fun S hle hfr => .inl ⟨w0, ev_nilc (hle.e rfl) (hle.d rfl)⟩) ?_)
       refine ob [1, 0] (fun S hle hfr => .inl ⟨w0, ev_loads (ds := [_, _, _, _, _, _, _, _, _, _, _, _, _, _, _, _]) (hle.e rfl) (hle.heap _ _ rfl) rfl rfl (hle.d rfl)⟩) ?_
       refine ob [2, 1, 0] (fun S hle hfr => .inl ⟨w0, ev_call_v (store_Valid_fn k x22.1 x27 hx27) (map_ev (.cons (hle.e rfl) (.nil))) [] (by repeat' (first | exact .nil | refine .cons ?_ ?_ | refine .one ?_ | refine .agg ?_ | exact .mk rfl | exact .lend (hle.heap _ _ rfl) (by simp) | exact .le (.nil _) rfl | exact .le (.emp _) rfl | exact .le (.any _) rfl | fail)) rfl rfl rfl (.inl rfl) (hle.d rfl)⟩) ?_
       refine ob [] (fun S hle hfr => .inl ⟨w0, st_move (hle.e rfl) (hle.d rfl)⟩) (ob [4] (fun S hle hfr => .inl ⟨w0, ev_nilc (hle.e rfl) (hle.d rfl)⟩) ?_)
       refine ob [5, 4] (fun S hle hfr => .inl ⟨w0, ev_loads (ds := [_, _, _, _, _, _, _, _, _, _, _, _, _, _, _, _]) (hle.e rfl) (hle.heap _ _ rfl) rfl rfl (hle.d rfl)⟩) ?_
       exact trivial
      case hk14x => rfl
      case hf14x => rfl
      refine aops_step1 rfl (ev_call_v (actorgridref26_ValidStore_fn k x23.1 x28 hx28) rfl [] ai rfl rfl rfl (.inl rfl) rfl) ?_
      refine aops_step1 rfl (ev_bool_eq rfl rfl rfl Try.underlying4 rfl) (s_sa ?_)
      refine aops_nil ?_
      cases Option.some.inj h
      refine aw_ret ⟨rfl, ret_b (bs := [(c_Store x22.1), (c_Store x23.1)]) r1 rfl rfl rfl rfl rfl (by intro i cs h; rcases i with _ | _ | i <;> simp at h <;> (subst h; rfl)) ?_⟩
      (repeat' (first | exact .refl _ | exact .nil | refine .tup ?_ | refine .v ?_ | refine .cons ?_ ?_ | refine .agg ?_ | refine .one ?_ | exact .nil _ | exact .emp _ | refine .val ?_ | refine .slc ?_ ?_ | fail))
    replace h := Md.cond_f h c26
    refine aw_skip ?_
    obtain ⟨x29, hx29, h⟩ := Md.bind_s h
    obtain ⟨x30, hx30, h⟩ := Md.bind_s h
    refine aw_seq ?_
    apply aw_draw 7 ((⟨[], .one (.ptr 0 _)⟩ : Add) :: ⟨[], .one (.ptr 0 _)⟩ :: ⟨[], .agg (c_Store a1)⟩ :: ⟨[], vB x29⟩ :: ⟨[], .one (.ptr 1 _)⟩ :: ⟨[], .one (.ptr 1 _)⟩ :: ⟨[], .agg (c_Store a2)⟩ :: []) (by decide) rfl ?hk15x ?hf15x ?ho15x ?hr15x
    case ho15x =>
     refine ob [] (fun S hle hfr => .inl ⟨w0, st_move (hle.e rfl) (hle.d rfl)⟩) (ob [0] (fun S hle hfr => .inl ⟨w0, ev_nilc (hle.e rfl) (hle.d rfl)⟩) ?_)
     refine ob [1, 0] (fun S hle hfr => .inl ⟨w0, ev_loads (ds := [_, _, _, _, _, _, _, _, _, _, _, _, _, _, _, _]) (hle.e rfl) (hle.heap _ _ rfl) rfl rfl (hle.d rfl)⟩) ?_
     refine ob [2, 1, 0] (fun S hle hfr => .inl ⟨w0, ev_call_v (store_Valid_fn k a1 x29 hx29) (map_ev (.cons (hle.e rfl) (.nil))) [] (by repeat' (first | exact .nil | refine .cons ?_ ?_ | refine .one ?_ | refine .agg ?_ | exact .mk rfl | exact .lend (hle.heap _ _ rfl) (by simp) | exact .le (.nil _) rfl | exact .le (.emp _) rfl | exact .le (.any _) rfl | fail)) rfl rfl rfl (.inl rfl) (hle.d rfl)⟩) ?_
     refine ob [] (fun S hle hfr => .inl ⟨w0, st_move (hle.e rfl) (hle.d rfl)⟩) (ob [4] (fun S hle hfr => .inl ⟨w0, ev_nilc (hle.e rfl) (hle.d rfl)⟩) ?_)
     refine ob [5, 4] (fun S hle hfr => .inl ⟨w0, ev_loads (ds := [_, _, _, _, _, _, _, _, _, _, _, _, _, _, _, _]) (hle.e rfl) (hle.heap _ _ rfl) rfl rfl (hle.d rfl)⟩) ?_
     exact trivial
    case hk15x => rfl
    case hf15x => rfl
    refine aops_step1 rfl (ev_call_v (actorgridref26_ValidStore_fn k a2 x30 hx30) rfl [] ai rfl rfl rfl (.inl rfl) rfl) ?_
    refine aops_step1 rfl (ev_bool_eq rfl rfl rfl Try.underlying4 rfl) (s_sa ?_)
    refine aops_nil ?_
    cases Option.some.inj h
    refine aw_ret ⟨rfl, ret_b (bs := [(c_Store a1), (c_Store a2)]) r1 rfl rfl rfl rfl rfl (by intro i cs h; rcases i with _ | _ | i <;> simp at h <;> (subst h; rfl)) ?_⟩
    (repeat' (first | exact .refl _ | exact .nil | refine .tup ?_ | refine .v ?_ | refine .cons ?_ ?_ | refine .agg ?_ | refine .one ?_ | exact .nil _ | exact .emp _ | refine .val ?_ | refine .slc ?_ ?_ | fail))
  replace h := Md.cond_f h c21
  refine aw_seq (aw_region (s_cm ?_))
  refine s_sa ?_
  refine aops_nil ?_
  refine aw_cond rfl (fun c31 => ?_) (fun c31 => ?_)
  · replace h := Md.cond_t h c31
    obtain ⟨x32, hx32, h⟩ := Md.bind_s h
    refine aw_seq_mid (⟨164, [0, 1], [(1, .one (.ptr 0 0)), (2, .one (.ptr 1 0)), (3, .one (.ptr 2 0)), (11, .one (.ptr 3 0)), (12, vI x32.2)], [(0, some (.box (c_Store a1))), (1, some (.box (c_Store a2))), (2, some (.box (c_Actorgridlaw28Act a0))), (3, some (.box (c_Store x32.1)))]⟩ : ASt) ?_ ?_
    ·
      apply aw_late 10 8 ((⟨[], .one (.ptr 0 _)⟩ : Add) :: ⟨[], .one (.ptr 0 _)⟩ :: ⟨[], .agg (c_Store a1)⟩ :: ⟨[], .one (.ptr 2 _)⟩ :: ⟨[], .one (CV.ls byC a0.B)⟩ :: ⟨[], .tup [.agg (c_Store x32.1), vI x32.2]⟩ :: ⟨[], .tup [.agg (c_Store x32.1), vI x32.2]⟩ :: ⟨[], .agg (c_Store x32.1)⟩ :: ⟨[], vI x32.2⟩ :: ⟨[(3, some (.box [.val (.slice none 0 0), cI 0, cB false, cI 0, cI 0, cB false, .val (.slice none 0 0), cI 0, cB false, cI 0, cI 0, cB false, cI 0, cI 0, cI 0, cI 0]))], .one (.ptr 3 _)⟩ :: []) (by decide) (by decide) rfl rfl rfl ?hk16x ?hf16x ?ho16x ?hr16x ?hl16x
      case ho16x =>
       refine ob [] (fun S hle hfr => .inl ⟨w0, st_move (hle.e rfl) (hle.d rfl)⟩) (ob [0] (fun S hle hfr => .inl ⟨w0, ev_nilc (hle.e rfl) (hle.d rfl)⟩) ?_)
       refine ob [1, 0] (fun S hle hfr => .inl ⟨w0, ev_loads (ds := [_, _, _, _, _, _, _, _, _, _, _, _, _, _, _, _]) (hle.e rfl) (hle.heap _ _ rfl) rfl rfl (hle.d rfl)⟩) ?_
       refine ob [] (fun S hle hfr => .inl ⟨w0, ev_field (hle.e rfl) rfl (hle.d rfl)⟩) ?_
       refine ob [3] (fun S hle hfr => .inl ⟨w0, ev_load (hle.e rfl) (hle.heap _ _ rfl) rfl (hle.d rfl)⟩) ?_
       refine ob [2, 4, 1, 3, 0] (fun S hle hfr => .inl ⟨w0, ev_call_v (store_Checkpoint_fn k a1 a0.B x32 hx32) (map_ev (.cons (hle.e rfl) (.cons (hle.e rfl) (.nil)))) [] (by repeat' (first | exact .nil | refine .cons ?_ ?_ | refine .one ?_ | refine .agg ?_ | exact .mk rfl | exact .lend (hle.heap _ _ rfl) (by simp) | exact .le (.nil _) rfl | exact .le (.emp _) rfl | exact .le (.any _) rfl | fail)) rfl rfl rfl (.inl rfl) (hle.d rfl)⟩) ?_
       refine ob [5, 2, 4, 1, 3, 0] (fun S hle hfr => .inl ⟨w0, st_movet (hle.e rfl) (hle.d rfl)⟩) ?_
       refine ob [6, 5, 2, 4, 1, 3, 0] (fun S hle hfr => .inl ⟨w0, ev_extract (hle.e rfl) rfl (hle.d rfl)⟩) ?_
       refine ob [6, 5, 2, 4, 1, 3, 0] (fun S hle hfr => .inl ⟨w0, ev_extract (hle.e rfl) rfl (hle.d rfl)⟩) ?_
       refine ob [] (fun S hle hfr => .inl ⟨w0, st_alloc (cs := [.val (.slice none 0 0), cI 0, cB false, cI 0, cI 0, cB false, .val (.slice none 0 0), cI 0, cB false, cI 0, cI 0, cB false, cI 0, cI 0, cI 0, cI 0]) 3 (hfr _ (List.mem_singleton.2 rfl)) rfl rfl rfl (hle.d rfl)⟩) ?_
       exact trivial
      case hk16x => rfl
      case hf16x => rfl
      case hr16x =>
       refine s_st [_, _, _, _, _, _, _, _, _, _, _, _, _, _, _, _] ?_
       refine s_sa ?_
       refine aops_nil ?_
       exact wk
      case hl16x =>
       refine s_st [_, _, _, _, _, _, _, _, _, _, _, _, _, _, _, _] ?_
       refine s_ex ?_
       refine s_sa ?_
       refine aops_nil ?_
       exact wk
    obtain ⟨x33, hx33, h⟩ := Md.bind_s h
    refine aw_seq_mid (⟨164, [0, 1], [(1, .one (.ptr 0 0)), (2, .one (.ptr 1 0)), (11, .one (.ptr 3 0)), (12, vI x32.2), (13, .one (.ptr 4 0)), (14, vI x33.2)], [(0, some (.box (c_Store a1))), (1, some (.box (c_Store a2))), (3, some (.box (c_Store x32.1))), (4, some (.box (c_Store x33.1)))]⟩ : ASt) ?_ ?_
    ·
      apply aw_late 10 8 ((⟨[], .one (.ptr 1 _)⟩ : Add) :: ⟨[], .one (.ptr 1 _)⟩ :: ⟨[], .agg (c_Store a2)⟩ :: ⟨[], .one (.ptr 2 _)⟩ :: ⟨[], .one (CV.ls byC a0.B)⟩ :: ⟨[], .tup [.agg (c_Store x33.1), vI x33.2]⟩ :: ⟨[], .tup [.agg (c_Store x33.1), vI x33.2]⟩ :: ⟨[], .agg (c_Store x33.1)⟩ :: ⟨[], vI x33.2⟩ :: ⟨[(4, some (.box [.val (.slice none 0 0), cI 0, cB false, cI 0, cI 0, cB false, .val (.slice none 0 0), cI 0, cB false, cI 0, cI 0, cB false, cI 0, cI 0, cI 0, cI 0]))], .one (.ptr 4 _)⟩ :: []) (by decide) (by decide) rfl rfl rfl ?hk17x ?hf17x ?ho17x ?hr17x ?hl17x
      case ho17x =>
       refine ob [] (fun S hle hfr => .inl ⟨w0, st_move (hle.e rfl) (hle.d rfl)⟩) (ob [0] (fun S hle hfr => .inl ⟨w0, ev_nilc (hle.e rfl) (hle.d rfl)⟩) ?_)
       refine ob [1, 0] (fun S hle hfr => .inl ⟨w0, ev_loads (ds := [_, _, _, _, _, _, _, _, _, _, _, _, _, _, _, _]) (hle.e rfl) (hle.heap _ _ rfl) rfl rfl (hle.d rfl)⟩) ?_
       refine ob [] (fun S hle hfr => .inl ⟨w0, ev_field (hle.e rfl) rfl (hle.d rfl)⟩) ?_
       refine ob [3] (fun S hle hfr => .inl ⟨w0, ev_load (hle.e rfl) (hle.heap _ _ rfl) rfl (hle.d rfl)⟩) ?_
       refine ob [2, 4, 1, 3, 0] (fun S hle hfr => .inl ⟨w0, ev_call_v (actorgridref26_Checkpoint_fn k a2 a0.B x33 hx33) (map_ev (.cons (hle.e rfl) (.cons (hle.e rfl) (.nil)))) [] (by repeat' (first | exact .nil | refine .cons ?_ ?_ | refine .one ?_ | refine .agg ?_ | exact .mk rfl | exact .lend (hle.heap _ _ rfl) (by simp) | exact .le (.nil _) rfl | exact .le (.emp _) rfl | exact .le (.any _) rfl | fail)) rfl rfl rfl (.inl rfl) (hle.d rfl)⟩) ?_
       refine ob [5, 2, 4, 1, 3, 0] (fun S hle hfr => .inl ⟨w0, st_movet (hle.e rfl) (hle.d rfl)⟩) ?_
       refine ob [6, 5, 2, 4, 1, 3, 0] (fun S hle hfr => .inl ⟨w0, ev_extract (hle.e rfl) rfl (hle.d rfl)⟩) ?_
       refine ob [6, 5, 2, 4, 1, 3, 0] (fun S hle hfr => .inl ⟨w0, ev_extract (hle.e rfl) rfl (hle.d rfl)⟩) ?_
       refine ob [] (fun S hle hfr => .inl ⟨w0, st_alloc (cs := [.val (.slice none 0 0), cI 0, cB false, cI 0, cI 0, cB false, .val (.slice none 0 0), cI 0, cB false, cI 0, cI 0, cB false, cI 0, cI 0, cI 0, cI 0]) 4 (hfr _ (List.mem_singleton.2 rfl)) rfl rfl rfl (hle.d rfl)⟩) ?_
       exact trivial
      case hk17x => rfl
      case hf17x => rfl
      case hr17x =>
       refine s_st [_, _, _, _, _, _, _, _, _, _, _, _, _, _, _, _] ?_
       refine s_sa ?_
       refine aops_nil ?_
       exact wk
      case hl17x =>
       refine s_st [_, _, _, _, _, _, _, _, _, _, _, _, _, _, _, _] ?_
       refine s_ex ?_
       refine s_sa ?_
       refine aops_nil ?_
       exact wk
    refine aw_seq (aw_seq (aw_region (s_ls [_, _, _, _, _, _, _, _, _, _, _, _, _, _, _, _] ?_)))
    refine s_mv ?_
    refine s_ls [_, _, _, _, _, _, _, _, _, _, _, _, _, _, _, _] ?_
    refine s_mv ?_
    obtain ⟨x34, hx34, h⟩ := Md.bind_s h
    refine aops_step1 rfl (ev_call_v (actorgridlaw28_same_fn k x32.1 x32.2 x33.1 x33.2 x34 hx34) rfl [] ai rfl rfl rfl (.inl rfl) rfl) (s_nt ?_)
    refine aops_nil ?_
    refine aw_cond rfl (fun c35 => ?_) (fun c35 => ?_)
    · replace h := Md.cond_t h c35
      refine aw_seq (aw_region (s_sa ?_))
      refine aops_nil ?_
      cases Option.some.inj h
      refine aw_ret ⟨rfl, ret_b (bs := [(c_Store a1), (c_Store a2)]) r1 rfl rfl rfl rfl rfl (by intro i cs h; rcases i with _ | _ | i <;> simp at h <;> (subst h; rfl)) ?_⟩
      (repeat' (first | exact .refl _ | exact .nil | refine .tup ?_ | refine .v ?_ | refine .cons ?_ ?_ | refine .agg ?_ | refine .one ?_ | exact .nil _ | exact .emp _ | refine .val ?_ | refine .slc ?_ ?_ | fail))
    replace h := Md.cond_f h c35
    refine aw_skip (aw_seq (aw_region (s_mv ?_)))
    refine s_cm ?_
    refine aops_nil ?_
    refine aw_cond rfl (fun c36 => ?_) (fun c36 => ?_)
    · replace h := Md.cond_t h c36
      apply aw_draw_stores 6 [(5, [4, 2, 0], 0, (c_Store x32.1))] ((⟨[], .one (.ptr 0 _)⟩ : Add) :: ⟨[], .one (.ptr 1 _)⟩ :: ⟨[], .agg (c_Store x32.1)⟩ :: ⟨[], .agg (c_Store x33.1)⟩ :: ⟨[], .one (.ptr 0 _)⟩ :: ⟨[], .one .any⟩ :: []) (by decide) rfl ?hk18x ?hf18x ?ho18x ?hv18x ?hr18x
      case ho18x =>
       refine ⟨.inr ⟨[], [], (by decide +kernel), (by decide +kernel), ⟨?_, .inl rfl⟩⟩, ?_⟩
       · refine .inr (.inr fun S hle hfr => ?_)
         exact .inl ⟨w0, st_move (hle.e rfl) (hle.d rfl)⟩
       refine ⟨.inr ⟨[], [], (by decide +kernel), (by decide +kernel), ⟨?_, ?_⟩⟩, ?_⟩
       · refine .inr (.inr fun S hle hfr => ?_)
         exact .inl ⟨w0, st_move (hle.e rfl) (hle.d rfl)⟩
       · refine .inr fun S hle hfr => ?_
         exact .inl ⟨w0, st_move (hle.e rfl) (hle.d rfl)⟩
       refine ⟨.inr ⟨[], [], (by decide +kernel), (by decide +kernel), ⟨?_, .inl rfl⟩⟩, ?_⟩
       · refine .inr (.inr fun S hle hfr => ?_)
         exact .inl ⟨w0, ev_loads (ds := [_, _, _, _, _, _, _, _, _, _, _, _, _, _, _, _]) (hle.e rfl) (hle.heap _ _ rfl) rfl rfl (hle.d rfl)⟩
       refine ⟨.inr ⟨[], [], (by decide +kernel), (by decide +kernel), ⟨?_, ?_⟩⟩, ?_⟩
       · refine .inr (.inr fun S hle hfr => ?_)
         exact .inl ⟨w0, ev_loads (ds := [_, _, _, _, _, _, _, _, _, _, _, _, _, _, _, _]) (hle.e rfl) (hle.heap _ _ rfl) rfl rfl (hle.d rfl)⟩
       · refine .inr fun S hle hfr => ?_
         exact .inl ⟨w0, ev_loads (ds := [_, _, _, _, _, _, _, _, _, _, _, _, _, _, _, _]) (hle.e rfl) (hle.heap _ _ rfl) rfl rfl (hle.d rfl)⟩
       refine ⟨.inr ⟨0 :: 2 :: [], [], (by decide +kernel), (by decide +kernel), ⟨?_, .inl rfl⟩⟩, ?_⟩
       · refine .inr (.inr fun S hle hfr => ?_)
         exact .inl ⟨w0, ev_nilc (hle.e rfl) (hle.d rfl)⟩
       refine ⟨.inl rfl, ?_⟩
       exact trivial
      case hv18x =>
       refine ⟨⟨rfl, rfl, (by decide +kernel), rfl, rfl, _, _, rfl, rfl, rfl, fun S hle => st_store (cs' := [_, _, _, _, _, _, _, _, _, _, _, _, _, _, _, _]) (hle.e rfl) (hle.heap _ _ rfl) (hle.e rfl) rfl rfl rfl rfl (hle.d rfl) rfl⟩, ?_⟩
       exact trivial
      case hk18x => rfl
      case hf18x => rfl
      refine aops_step1 rfl (ev_nilc rfl rfl) (s_st [_, _, _, _, _, _, _, _, _, _, _, _, _, _, _, _] ?_)
      refine aops_nil ?_
      obtain ⟨x37, hx37, h⟩ := Md.bind_s h
      obtain ⟨x38, hx38, h⟩ := Md.bind_s h
      refine aw_seq ?_
      apply aw_draw 7 ((⟨[], .one (.ptr 0 _)⟩ : Add) :: ⟨[], .one (.ptr 0 _)⟩ :: ⟨[], .agg (c_Store x32.1)⟩ :: ⟨[], vB x37⟩ :: ⟨[], .one (.ptr 1 _)⟩ :: ⟨[], .one (.ptr 1 _)⟩ :: ⟨[], .agg (c_Store x33.1)⟩ :: []) (by decide) rfl ?hk19x ?hf19x ?ho19x ?hr19x
      case ho19x =>
       refine ob [] (fun S hle hfr => .inl ⟨w0, st_move (hle.e rfl) (hle.d rfl)⟩) (ob [0] (fun S hle hfr => .inl ⟨w0, ev_nilc (hle.e rfl) (hle.d rfl)⟩) ?_)
       refine ob [1, 0] (fun S hle hfr => .inl ⟨w0, ev_loads (ds := [_, _, _, _, _, _, _, _, _, _, _, _, _, _, _, _]) (hle.e rfl) (hle.heap _ _ rfl) rfl rfl (hle.d rfl)⟩) ?_
       refine ob [2, 1, 0] (fun S hle hfr => .inl ⟨w0, ev_call_v (store_Valid_fn k x32.1 x37 hx37) (map_ev (.cons (hle.e rfl) (.nil))) [] (by repeat' (first | exact .nil | refine .cons ?_ ?_ | refine .one ?_ | refine .agg ?_ | exact .mk rfl | exact .lend (hle.heap _ _ rfl) (by simp) | exact .le (.nil _) rfl | exact .le (.emp _) rfl | exact .le (.any _) rfl | fail)) rfl rfl rfl (.inl rfl) (hle.d rfl)⟩) ?_
       refine ob [] (fun S hle hfr => .inl ⟨w0, st_move (hle.e rfl) (hle.d rfl)⟩) (ob [4] (fun S hle hfr => .inl ⟨w0, ev_nilc (hle.e rfl) (hle.d rfl)⟩) ?_)
       refine ob [5, 4] (fun S hle hfr => .inl ⟨w0, ev_loads (ds := [_, _, _, _, _, _, _, _, _, _, _, _, _, _, _, _]) (hle.e rfl) (hle.heap _ _ rfl) rfl rfl (hle.d rfl)⟩) ?_
       exact trivial
      case hk19x => rfl
      case hf19x => rfl
      refine aops_step1 rfl (ev_call_v (actorgridref26_ValidStore_fn k x33.1 x38 hx38) rfl [] ai rfl rfl rfl (.inl rfl) rfl) ?_
      refine aops_step1 rfl (ev_bool_eq rfl rfl rfl Try.underlying4 rfl) (s_sa ?_)
      refine aops_nil ?_
      cases Option.some.inj h
      refine aw_ret ⟨rfl, ret_b (bs := [(c_Store x32.1), (c_Store x33.1)]) r1 rfl rfl rfl rfl rfl (by intro i cs h; rcases i with _ | _ | i <;> simp at h <;> (subst h; rfl)) ?_⟩
      (repeat' (first | exact .refl _ | exact .nil | refine .tup ?_ | refine .v ?_ | refine .cons ?_ ?_ | refine .agg ?_ | refine .one ?_ | exact .nil _ | exact .emp _ | refine .val ?_ | refine .slc ?_ ?_ | fail))
    replace h := Md.cond_f h c36
    refine aw_skip ?_
    obtain ⟨x39, hx39, h⟩ := Md.bind_s h
    obtain ⟨x40, hx40, h⟩ := Md.bind_s h
    refine aw_seq ?_
    apply aw_draw 7 ((⟨[], .one (.ptr 0 _)⟩ : Add) :: ⟨[], .one (.ptr 0 _)⟩ :: ⟨[], .agg (c_Store a1)⟩ :: ⟨[], vB x39⟩ :: ⟨[], .one (.ptr 1 _)⟩ :: ⟨[], .one (.ptr 1 _)⟩ :: ⟨[], .agg (c_Store a2)⟩ :: []) (by decide) rfl ?hk20x ?hf20x ?ho20x ?hr20x
    case ho20x =>
     refine ob [] (fun S hle hfr => .inl ⟨w0, st_move (hle.e rfl) (hle.d rfl)⟩) (ob [0] (fun S hle hfr => .inl ⟨w0, ev_nilc (hle.e rfl) (hle.d rfl)⟩) ?_)
     refine ob [1, 0] (fun S hle hfr => .inl ⟨w0, ev_loads (ds := [_, _, _, _, _, _, _, _, _, _, _, _, _, _, _, _]) (hle.e rfl) (hle.heap _ _ rfl) rfl rfl (hle.d rfl)⟩) ?_
     refine ob [2, 1, 0] (fun S hle hfr => .inl ⟨w0, ev_call_v (store_Valid_fn k a1 x39 hx39) (map_ev (.cons (hle.e rfl) (.nil))) [] (by repeat' (first | exact .nil | refine .cons ?_ ?_ | refine .one ?_ | refine .agg ?_ | exact .mk rfl | exact .lend (hle.heap _ _ rfl) (by simp) | exact .le (.nil _) rfl | exact .le (.emp _) rfl | exact .le (.any _) rfl | fail)) rfl rfl rfl (.inl rfl) (hle.d rfl)⟩) ?_
     refine ob [] (fun S hle hfr => .inl ⟨w0, st_move (hle.e rfl) (hle.d rfl)⟩) (ob [4] (fun S hle hfr => .inl ⟨w0, ev_nilc (hle.e rfl) (hle.d rfl)⟩) ?_)
     refine ob [5, 4] (fun S hle hfr => .inl ⟨w0, ev_loads (ds := [_, _, _, _, _, _, _, _, _, _, _, _, _, _, _, _]) (hle.e rfl) (hle.heap _ _ rfl) rfl rfl (hle.d rfl)⟩) ?_
     exact trivial
    case hk20x => rfl
    case hf20x => rfl
    refine aops_step1 rfl (ev_call_v (actorgridref26_ValidStore_fn k a2 x40 hx40) rfl [] ai rfl rfl rfl (.inl rfl) rfl) ?_
    refine aops_step1 rfl (ev_bool_eq rfl rfl rfl Try.underlying4 rfl) (s_sa ?_)
    refine aops_nil ?_
    cases Option.some.inj h
    refine aw_ret ⟨rfl, ret_b (bs := [(c_Store a1), (c_Store a2)]) r1 rfl rfl rfl rfl rfl (by intro i cs h; rcases i with _ | _ | i <;> simp at h <;> (subst h; rfl)) ?_⟩
    (repeat' (first | exact .refl _ | exact .nil | refine .tup ?_ | refine .v ?_ | refine .cons ?_ ?_ | refine .agg ?_ | refine .one ?_ | exact .nil _ | exact .emp _ | refine .val ?_ | refine .slc ?_ ?_ | fail))
  replace h := Md.cond_f h c31
  refine aw_seq (aw_region (s_cm ?_))
  refine s_sa ?_
  refine aops_nil ?_
  refine aw_cond rfl (fun c41 => ?_) (fun c41 => ?_)
  · replace h := Md.cond_t h c41
    refine aw_seq (aw_region (s_fd ?_))
    refine s_ld ?_
    refine aops_step1 rfl (st_conv_int rfl rfl Try.underlying5 Try.underlying3 (Md.conv_u8_i64 a0.Writes)) ?_
    refine aops_step1 rfl (ev_rem rfl rfl rfl (by decide) (Md.nat_rem _ _)) (s_sa ?_)
    refine aops_nil ?_
    rcases Md.bool_or ((decide ((((a0.Writes.toNat % 2) : Nat) : Int) = 0))) with q42 | q42
    · replace h := Md.cond_t h q42
      obtain ⟨x43, hx43, h⟩ := Md.bind_s h
      refine aw_seq_mid (⟨164, [0, 1], [(1, .one (.ptr 0 0)), (2, .one (.ptr 1 0)), (3, .one (.ptr 2 0)), (15, vI (((a0.Writes.toNat % 2) : Nat) : Int)), (16, .one (.ptr 3 0)), (17, vI x43.2)], [(0, some (.box (c_Store a1))), (1, some (.box (c_Store a2))), (2, some (.box (c_Actorgridlaw28Act a0))), (3, some (.box (c_Disk x43.1)))]⟩ : ASt) ?_ ?_
      ·
        apply aw_late 19 17 ((⟨[], .one (.ptr 0 _)⟩ : Add) :: ⟨[], vI (((a0.Writes.toNat % 2) : Nat) : Int)⟩ :: ⟨[], .one (.ptr 0 _)⟩ :: ⟨[], .one (.ptr 0 _)⟩ :: ⟨[], .one (.ptr 0 _)⟩ :: ⟨[], .agg (c_Disk a1.Disks.x0)⟩ :: ⟨[], .one (.ptr 2 _)⟩ :: ⟨[], .one (.val (.int .u8 (a0.Writes.toNat : Int)))⟩ :: ⟨[], .one (.val (.int .u8 (((a0.Writes / (2 : UInt8))).toNat : Int)))⟩ :: ⟨[], .one (.val (.int .u8 ((((a0.Writes / (2 : UInt8)) % (5 : UInt8))).toNat : Int)))⟩ :: ⟨[], vI ((((a0.Writes / (2 : UInt8)) % (5 : UInt8)).toNat : Nat) : Int)⟩ :: ⟨[], .one (.ptr 2 _)⟩ :: ⟨[], .one (.val (.int .u8 (a0.Keep.toNat : Int)))⟩ :: ⟨[], vI ((a0.Keep.toNat : Nat) : Int)⟩ :: ⟨[], .tup [.agg (c_Disk x43.1), vI x43.2]⟩ :: ⟨[], .tup [.agg (c_Disk x43.1), vI x43.2]⟩ :: ⟨[], .agg (c_Disk x43.1)⟩ :: ⟨[], vI x43.2⟩ :: ⟨[(3, some (.box [.val (.slice none 0 0), cI 0, cB false, cI 0, cI 0, cB false]))], .one (.ptr 3 _)⟩ :: []) (by decide) (by decide) rfl rfl rfl ?hk21x ?hf21x ?ho21x ?hr21x ?hl21x
        case ho21x =>
         refine ob [] (fun S hle hfr => .inl ⟨w0, st_move (hle.e rfl) (hle.d rfl)⟩) (ob [] (fun S hle hfr => .inl ⟨w0, st_move (hle.e rfl) (hle.d rfl)⟩) ?_)
         refine ob [0] (fun S hle hfr => .inl ⟨w0, ev_nilc (hle.e rfl) (hle.d rfl)⟩) (ob [2, 0] (fun S hle hfr => .inl ⟨w0, ev_field (hle.e rfl) rfl (hle.d rfl)⟩) ?_)
         refine ob [3, 1, 2, 0] (fun S hle hfr => .inl ⟨w0, ev_index_arr (j := 0) (hle.e rfl) (hle.e rfl) (of_decide_eq_true q42) rfl (hle.d rfl)⟩) ?_
         refine ob [4, 3, 1, 2, 0] (fun S hle hfr => .inl ⟨w0, ev_loads (ds := [_, _, _, _, _, _]) (hle.e rfl) (hle.heap _ _ rfl) rfl rfl (hle.d rfl)⟩) ?_
         refine ob [] (fun S hle hfr => .inl ⟨w0, ev_field (hle.e rfl) rfl (hle.d rfl)⟩) ?_
         refine ob [6] (fun S hle hfr => .inl ⟨w0, ev_load (hle.e rfl) (hle.heap _ _ rfl) rfl (hle.d rfl)⟩) ?_
         refine ob [7, 6] (fun S hle hfr => .inl ⟨w0, ev_quo (hle.e rfl) (hle.e rfl) (hle.d rfl) (by decide) (Md.quo_u8 a0.Writes (2 : UInt8))⟩) ?_
         refine ob [8, 7, 6] (fun S hle hfr => .inl ⟨w0, ev_rem (hle.e rfl) (hle.e rfl) (hle.d rfl) (by decide) (Md.rem_u8 (a0.Writes / (2 : UInt8)) (5 : UInt8))⟩) ?_
         refine ob [9, 8, 7, 6] (fun S hle hfr => .inl ⟨w0, st_conv_int (hle.e rfl) (hle.d rfl) Try.underlying5 Try.underlying3 (Md.conv_u8_i64 ((a0.Writes / (2 : UInt8)) % (5 : UInt8)))⟩) ?_
         refine ob [] (fun S hle hfr => .inl ⟨w0, ev_field (hle.e rfl) rfl (hle.d rfl)⟩) ?_
         refine ob [11] (fun S hle hfr => .inl ⟨w0, ev_load (hle.e rfl) (hle.heap _ _ rfl) rfl (hle.d rfl)⟩) ?_
         refine ob [12, 11] (fun S hle hfr => .inl ⟨w0, st_conv_int (hle.e rfl) (hle.d rfl) Try.underlying5 Try.underlying3 (Md.conv_u8_i64 a0.Keep)⟩) ?_
         refine ob [5, 10, 13, 4, 9, 12, 3, 1, 8, 11, 2, 7, 0, 6] (fun S hle hfr => .inl ⟨w0, ev_call_v (disk_Arm_fn k a1.Disks.x0 ((((a0.Writes / (2 : UInt8)) % (5 : UInt8)).toNat : Nat) : Int) ((a0.Keep.toNat : Nat) : Int) x43 hx43) (map_ev (.cons (hle.e rfl) (.cons (hle.e rfl) (.cons (hle.e rfl) (.nil))))) [] (by repeat' (first | exact .nil | refine .cons ?_ ?_ | refine .one ?_ | refine .agg ?_ | exact .mk rfl | exact .lend (hle.heap _ _ rfl) (by simp) | exact .le (.nil _) rfl | exact .le (.emp _) rfl | exact .le (.any _) rfl | fail)) rfl rfl rfl (.inl rfl) (hle.d rfl)⟩) ?_
         refine ob [14, 5, 10, 13, 4, 9, 12, 3, 1, 8, 11, 2, 7, 0, 6] (fun S hle hfr => .inl ⟨w0, st_movet (hle.e rfl) (hle.d rfl)⟩) ?_
         refine ob [15, 14, 5, 10, 13, 4, 9, 12, 3, 1, 8, 11, 2, 7, 0, 6] (fun S hle hfr => .inl ⟨w0, ev_extract (hle.e rfl) rfl (hle.d rfl)⟩) ?_
         refine ob [15, 14, 5, 10, 13, 4, 9, 12, 3, 1, 8, 11, 2, 7, 0, 6] (fun S hle hfr => .inl ⟨w0, ev_extract (hle.e rfl) rfl (hle.d rfl)⟩) ?_
         refine ob [] (fun S hle hfr => .inl ⟨w0, st_alloc (cs := [.val (.slice none 0 0), cI 0, cB false, cI 0, cI 0, cB false]) 3 (hfr _ (List.mem_singleton.2 rfl)) rfl rfl rfl (hle.d rfl)⟩) ?_
         exact trivial
        case hk21x => rfl
        case hf21x => rfl
        case hr21x =>
         refine s_st [_, _, _, _, _, _] ?_
         refine s_sa ?_
         refine aops_nil ?_
         exact wk
        case hl21x =>
         refine s_st [_, _, _, _, _, _] ?_
         refine s_ex ?_
         refine s_sa ?_
         refine aops_nil ?_
         exact wk
      obtain ⟨x44, hx44, h⟩ := Md.bind_s h
      refine aw_seq_mid (⟨164, [0, 1], [(1, .one (.ptr 0 0)), (2, .one (.ptr 1 0)), (15, vI (((a0.Writes.toNat % 2) : Nat) : Int)), (16, .one (.ptr 3 0)), (17, vI x43.2), (18, .one (.ptr 4 0)), (19, vI x44.2)], [(0, some (.box (c_Store a1))), (1, some (.box (c_Store a2))), (3, some (.box (c_Disk x43.1))), (4, some (.box (c_Disk x44.1)))]⟩ : ASt) ?_ ?_
      ·
        apply aw_late 19 17 ((⟨[], .one (.ptr 1 _)⟩ : Add) :: ⟨[], vI (((a0.Writes.toNat % 2) : Nat) : Int)⟩ :: ⟨[], .one (.ptr 1 _)⟩ :: ⟨[], .one (.ptr 1 _)⟩ :: ⟨[], .one (.ptr 1 _)⟩ :: ⟨[], .agg (c_Disk a2.Disks.x0)⟩ :: ⟨[], .one (.ptr 2 _)⟩ :: ⟨[], .one (.val (.int .u8 (a0.Writes.toNat : Int)))⟩ :: ⟨[], .one (.val (.int .u8 (((a0.Writes / (2 : UInt8))).toNat : Int)))⟩ :: ⟨[], .one (.val (.int .u8 ((((a0.Writes / (2 : UInt8)) % (5 : UInt8))).toNat : Int)))⟩ :: ⟨[], vI ((((a0.Writes / (2 : UInt8)) % (5 : UInt8)).toNat : Nat) : Int)⟩ :: ⟨[], .one (.ptr 2 _)⟩ :: ⟨[], .one (.val (.int .u8 (a0.Keep.toNat : Int)))⟩ :: ⟨[], vI ((a0.Keep.toNat : Nat) : Int)⟩ :: ⟨[], .tup [.agg (c_Disk x44.1), vI x44.2]⟩ :: ⟨[], .tup [.agg (c_Disk x44.1), vI x44.2]⟩ :: ⟨[], .agg (c_Disk x44.1)⟩ :: ⟨[], vI x44.2⟩ :: ⟨[(4, some (.box [.val (.slice none 0 0), cI 0, cB false, cI 0, cI 0, cB false]))], .one (.ptr 4 _)⟩ :: []) (by decide) (by decide) rfl rfl rfl ?hk22x ?hf22x ?ho22x ?hr22x ?hl22x
        case ho22x =>
         refine ob [] (fun S hle hfr => .inl ⟨w0, st_move (hle.e rfl) (hle.d rfl)⟩) (ob [] (fun S hle hfr => .inl ⟨w0, st_move (hle.e rfl) (hle.d rfl)⟩) ?_)
         refine ob [0] (fun S hle hfr => .inl ⟨w0, ev_nilc (hle.e rfl) (hle.d rfl)⟩) (ob [2, 0] (fun S hle hfr => .inl ⟨w0, ev_field (hle.e rfl) rfl (hle.d rfl)⟩) ?_)
         refine ob [3, 1, 2, 0] (fun S hle hfr => .inl ⟨w0, ev_index_arr (j := 0) (hle.e rfl) (hle.e rfl) (of_decide_eq_true q42) rfl (hle.d rfl)⟩) ?_
         refine ob [4, 3, 1, 2, 0] (fun S hle hfr => .inl ⟨w0, ev_loads (ds := [_, _, _, _, _, _]) (hle.e rfl) (hle.heap _ _ rfl) rfl rfl (hle.d rfl)⟩) ?_
         refine ob [] (fun S hle hfr => .inl ⟨w0, ev_field (hle.e rfl) rfl (hle.d rfl)⟩) ?_
         refine ob [6] (fun S hle hfr => .inl ⟨w0, ev_load (hle.e rfl) (hle.heap _ _ rfl) rfl (hle.d rfl)⟩) ?_
         refine ob [7, 6] (fun S hle hfr => .inl ⟨w0, ev_quo (hle.e rfl) (hle.e rfl) (hle.d rfl) (by decide) (Md.quo_u8 a0.Writes (2 : UInt8))⟩) ?_
         refine ob [8, 7, 6] (fun S hle hfr => .inl ⟨w0, ev_rem (hle.e rfl) (hle.e rfl) (hle.d rfl) (by decide) (Md.rem_u8 (a0.Writes / (2 : UInt8)) (5 : UInt8))⟩) ?_
         refine ob [9, 8, 7, 6] (fun S hle hfr => .inl ⟨w0, st_conv_int (hle.e rfl) (hle.d rfl) Try.underlying5 Try.underlying3 (Md.conv_u8_i64 ((a0.Writes / (2 : UInt8)) % (5 : UInt8)))⟩) ?_
         refine ob [] (fun S hle hfr => .inl ⟨w0, ev_field (hle.e rfl) rfl (hle.d rfl)⟩) ?_
         refine ob [11] (fun S hle hfr => .inl ⟨w0, ev_load (hle.e rfl) (hle.heap _ _ rfl) rfl (hle.d rfl)⟩) ?_
         refine ob [12, 11] (fun S hle hfr => .inl ⟨w0, st_conv_int (hle.e rfl) (hle.d rfl) Try.underlying5 Try.underlying3 (Md.conv_u8_i64 a0.Keep)⟩) ?_
         refine ob [5, 10, 13, 4, 9, 12, 3, 1, 8, 11, 2, 7, 0, 6] (fun S hle hfr => .inl ⟨w0, ev_call_v (actorgridref26_Arm_fn k a2.Disks.x0 ((((a0.Writes / (2 : UInt8)) % (5 : UInt8)).toNat : Nat) : Int) ((a0.Keep.toNat : Nat) : Int) x44 hx44) (map_ev (.cons (hle.e rfl) (.cons (hle.e rfl) (.cons (hle.e rfl) (.nil))))) [] (by repeat' (first | exact .nil | refine .cons ?_ ?_ | refine .one ?_ | refine .agg ?_ | exact .mk rfl | exact .lend (hle.heap _ _ rfl) (by simp) | exact .le (.nil _) rfl | exact .le (.emp _) rfl | exact .le (.any _) rfl | fail)) rfl rfl rfl (.inl rfl) (hle.d rfl)⟩) ?_
         refine ob [14, 5, 10, 13, 4, 9, 12, 3, 1, 8, 11, 2, 7, 0, 6] (fun S hle hfr => .inl ⟨w0, st_movet (hle.e rfl) (hle.d rfl)⟩) ?_
         refine ob [15, 14, 5, 10, 13, 4, 9, 12, 3, 1, 8, 11, 2, 7, 0, 6] (fun S hle hfr => .inl ⟨w0, ev_extract (hle.e rfl) rfl (hle.d rfl)⟩) ?_
         refine ob [15, 14, 5, 10, 13, 4, 9, 12, 3, 1, 8, 11, 2, 7, 0, 6] (fun S hle hfr => .inl ⟨w0, ev_extract (hle.e rfl) rfl (hle.d rfl)⟩) ?_
         refine ob [] (fun S hle hfr => .inl ⟨w0, st_alloc (cs := [.val (.slice none 0 0), cI 0, cB false, cI 0, cI 0, cB false]) 4 (hfr _ (List.mem_singleton.2 rfl)) rfl rfl rfl (hle.d rfl)⟩) ?_
         exact trivial
        case hk22x => rfl
        case hf22x => rfl
        case hr22x =>
         refine s_st [_, _, _, _, _, _] ?_
         refine s_sa ?_
         refine aops_nil ?_
         exact wk
        case hl22x =>
         refine s_st [_, _, _, _, _, _] ?_
         refine s_ex ?_
         refine s_sa ?_
         refine aops_nil ?_
         exact wk
      refine aw_seq (aw_seq (aw_region ?_))
      iterate 2 refine s_mv ?_
      refine s_cm ?_
      refine aops_nil ?_
      refine aw_cond rfl (fun c45 => ?_) (fun c45 => ?_)
      · replace h := Md.cond_t h c45
        refine aw_seq (aw_region (s_sa ?_))
        refine aops_nil ?_
        cases Option.some.inj h
        refine aw_ret ⟨rfl, ret_b (bs := [(c_Store a1), (c_Store a2)]) r1 rfl rfl rfl rfl rfl (by intro i cs h; rcases i with _ | _ | i <;> simp at h <;> (subst h; rfl)) ?_⟩
        (repeat' (first | exact .refl _ | exact .nil | refine .tup ?_ | refine .v ?_ | refine .cons ?_ ?_ | refine .agg ?_ | refine .one ?_ | exact .nil _ | exact .emp _ | refine .val ?_ | refine .slc ?_ ?_ | fail))
      replace h := Md.cond_f h c45
      refine aw_skip (aw_seq (aw_region (s_mv ?_)))
      refine s_cm ?_
      refine aops_nil ?_
      refine aw_cond rfl (fun c46 => ?_) (fun c46 => ?_)
      · replace h := Md.cond_t h c46
        apply aw_draw_stores 12 [(9, [8, 4, 0, 1, 7, 6], 0, (c_Disk x43.1 ++ c_Disk a1.Disks.x1 ++ [cI a1.Current, cI a1.Number, cI a1.Base, cI a1.Count]))] ((⟨[], .one (.ptr 0 _)⟩ : Add) :: ⟨[], vI (((a0.Writes.toNat % 2) : Nat) : Int)⟩ :: ⟨[], .one (.ptr 1 _)⟩ :: ⟨[], vI (((a0.Writes.toNat % 2) : Nat) : Int)⟩ :: ⟨[], .agg (c_Disk x43.1)⟩ :: ⟨[], .agg (c_Disk x44.1)⟩ :: ⟨[], .one (.ptr 0 _)⟩ :: ⟨[], .one (.ptr 0 _)⟩ :: ⟨[], .one (.ptr 0 _)⟩ :: ⟨[], .one .any⟩ :: ⟨[], .one (.ptr 1 _)⟩ :: ⟨[], .one (.ptr 1 _)⟩ :: []) (by decide) rfl ?hk23x ?hf23x ?ho23x ?hv23x ?hr23x
        case ho23x =>
         refine ⟨.inr ⟨[], [], (by decide +kernel), (by decide +kernel), ⟨?_, .inl rfl⟩⟩, ?_⟩
         · refine .inr (.inr fun S hle hfr => ?_)
           exact .inl ⟨w0, st_move (hle.e rfl) (hle.d rfl)⟩
         refine ⟨.inr ⟨[], [], (by decide +kernel), (by decide +kernel), ⟨?_, .inl rfl⟩⟩, ?_⟩
         · refine .inr (.inr fun S hle hfr => ?_)
           exact .inl ⟨w0, st_move (hle.e rfl) (hle.d rfl)⟩
         refine ⟨.inr ⟨[], [], (by decide +kernel), (by decide +kernel), ⟨?_, ?_⟩⟩, ?_⟩
         · refine .inr (.inr fun S hle hfr => ?_)
           exact .inl ⟨w0, st_move (hle.e rfl) (hle.d rfl)⟩
         · refine .inr fun S hle hfr => ?_
           exact .inl ⟨w0, st_move (hle.e rfl) (hle.d rfl)⟩
         refine ⟨.inr ⟨[], [], (by decide +kernel), (by decide +kernel), ⟨?_, ?_⟩⟩, ?_⟩
         · refine .inr (.inr fun S hle hfr => ?_)
           exact .inl ⟨w0, st_move (hle.e rfl) (hle.d rfl)⟩
         · refine .inr fun S hle hfr => ?_
           exact .inl ⟨w0, st_move (hle.e rfl) (hle.d rfl)⟩
         refine ⟨.inr ⟨[], [], (by decide +kernel), (by decide +kernel), ⟨?_, .inl rfl⟩⟩, ?_⟩
         · refine .inr (.inr fun S hle hfr => ?_)
           exact .inl ⟨w0, ev_loads (ds := [_, _, _, _, _, _]) (hle.e rfl) (hle.heap _ _ rfl) rfl rfl (hle.d rfl)⟩
         refine ⟨.inr ⟨[], [], (by decide +kernel), (by decide +kernel), ⟨?_, ?_⟩⟩, ?_⟩
         · refine .inr (.inr fun S hle hfr => ?_)
           exact .inl ⟨w0, ev_loads (ds := [_, _, _, _, _, _]) (hle.e rfl) (hle.heap _ _ rfl) rfl rfl (hle.d rfl)⟩
         · refine .inr fun S hle hfr => ?_
           exact .inl ⟨w0, ev_loads (ds := [_, _, _, _, _, _]) (hle.e rfl) (hle.heap _ _ rfl) rfl rfl (hle.d rfl)⟩
         refine ⟨.inr ⟨0 :: [], [], (by decide +kernel), (by decide +kernel), ⟨?_, .inl rfl⟩⟩, ?_⟩
         · refine .inr (.inr fun S hle hfr => ?_)
           exact .inl ⟨w0, ev_nilc (hle.e rfl) (hle.d rfl)⟩
         refine ⟨.inr ⟨6 :: 0 :: [], [], (by decide +kernel), (by decide +kernel), ⟨?_, .inl rfl⟩⟩, ?_⟩
         · refine .inr (.inr fun S hle hfr => ?_)
           exact .inl ⟨w0, ev_field (hle.e rfl) rfl (hle.d rfl)⟩
         refine ⟨.inr ⟨7 :: 1 :: 0 :: 4 :: 6 :: [], [], (by decide +kernel), (by decide +kernel), ⟨?_, .inl rfl⟩⟩, ?_⟩
         · refine .inr (.inr fun S hle hfr => ?_)
           exact .inl ⟨w0, ev_index_arr (j := 0) (hle.e rfl) (hle.e rfl) (of_decide_eq_true q42) rfl (hle.d rfl)⟩
         refine ⟨.inl rfl, ?_⟩
         refine ⟨.inr ⟨2 :: [], [], (by decide +kernel), (by decide +kernel), ⟨?_, ?_⟩⟩, ?_⟩
         · refine .inr (.inr fun S hle hfr => ?_)
           exact .inl ⟨w0, ev_nilc (hle.e rfl) (hle.d rfl)⟩
         · refine .inr fun S hle hfr => ?_
           exact .inl ⟨w0, ev_nilc (hle.e rfl) (hle.d rfl)⟩
         refine ⟨.inr ⟨10 :: 2 :: [], [], (by decide +kernel), (by decide +kernel), ⟨?_, ?_⟩⟩, ?_⟩
         · refine .inr (.inr fun S hle hfr => ?_)
           exact .inl ⟨w0, ev_field (hle.e rfl) rfl (hle.d rfl)⟩
         · refine .inr fun S hle hfr => ?_
           exact .inl ⟨w0, ev_field (hle.e rfl) rfl (hle.d rfl)⟩
         exact trivial
        case hv23x =>
         refine ⟨⟨rfl, rfl, (by decide +kernel), rfl, rfl, _, _, rfl, rfl, rfl, fun S hle => st_store (cs' := [_, _, _, _, _, _, _, _, _, _, _, _, _, _, _, _]) (hle.e rfl) (hle.heap _ _ rfl) (hle.e rfl) rfl rfl rfl rfl (hle.d rfl) rfl⟩, ?_⟩
         exact trivial
        case hk23x => rfl
        case hf23x => rfl
        refine aops_step1 rfl (ev_index_arr (j := 0) rfl rfl (of_decide_eq_true q42) rfl rfl) (s_st [_, _, _, _, _, _, _, _, _, _, _, _, _, _, _, _] ?_)
        refine aops_nil ?_
        obtain ⟨x47, hx47, h⟩ := Md.bind_s h
        obtain ⟨x48, hx48, h⟩ := Md.bind_s h
        refine aw_seq ?_
        apply aw_draw 7 ((⟨[], .one (.ptr 0 _)⟩ : Add) :: ⟨[], .one (.ptr 0 _)⟩ :: ⟨[], .agg (c_Disk x43.1 ++ c_Disk a1.Disks.x1 ++ [cI a1.Current, cI a1.Number, cI a1.Base, cI a1.Count])⟩ :: ⟨[], vB x47⟩ :: ⟨[], .one (.ptr 1 _)⟩ :: ⟨[], .one (.ptr 1 _)⟩ :: ⟨[], .agg (c_Disk x44.1 ++ c_Disk a2.Disks.x1 ++ [cI a2.Current, cI a2.Number, cI a2.Base, cI a2.Count])⟩ :: []) (by decide) rfl ?hk24x ?hf24x ?ho24x ?hr24x
        case ho24x =>
         refine ob [] (fun S hle hfr => .inl ⟨w0, st_move (hle.e rfl) (hle.d rfl)⟩) (ob [0] (fun S hle hfr => .inl ⟨w0, ev_nilc (hle.e rfl) (hle.d rfl)⟩) ?_)
         refine ob [1, 0] (fun S hle hfr => .inl ⟨w0, ev_loads (ds := [_, _, _, _, _, _, _, _, _, _, _, _, _, _, _, _]) (hle.e rfl) (hle.heap _ _ rfl) rfl rfl (hle.d rfl)⟩) ?_
         refine ob [2, 1, 0] (fun S hle hfr => .inl ⟨w0, ev_call_v (store_Valid_fn k (⟨(⟨x43.1, a1.Disks.x1⟩ : Arr2Disk), a1.Current, a1.Number, a1.Base, a1.Count⟩ : Store) x47 hx47) (map_ev (.cons (hle.e rfl) (.nil))) [] (by repeat' (first | exact .nil | refine .cons ?_ ?_ | refine .one ?_ | refine .agg ?_ | exact .mk rfl | exact .lend (hle.heap _ _ rfl) (by simp) | exact .le (.nil _) rfl | exact .le (.emp _) rfl | exact .le (.any _) rfl | fail)) rfl rfl rfl (.inl rfl) (hle.d rfl)⟩) ?_
         refine ob [] (fun S hle hfr => .inl ⟨w0, st_move (hle.e rfl) (hle.d rfl)⟩) (ob [4] (fun S hle hfr => .inl ⟨w0, ev_nilc (hle.e rfl) (hle.d rfl)⟩) ?_)
         refine ob [5, 4] (fun S hle hfr => .inl ⟨w0, ev_loads (ds := [_, _, _, _, _, _, _, _, _, _, _, _, _, _, _, _]) (hle.e rfl) (hle.heap _ _ rfl) rfl rfl (hle.d rfl)⟩) ?_
         exact trivial
        case hk24x => rfl
        case hf24x => rfl
        refine aops_step1 rfl (ev_call_v (actorgridref26_ValidStore_fn k (⟨(⟨x44.1, a2.Disks.x1⟩ : Arr2Disk), a2.Current, a2.Number, a2.Base, a2.Count⟩ : Store) x48 hx48) rfl [] ai rfl rfl rfl (.inl rfl) rfl) ?_
        refine aops_step1 rfl (ev_bool_eq rfl rfl rfl Try.underlying4 rfl) (s_sa ?_)
        refine aops_nil ?_
        cases Option.some.inj h
        refine aw_ret ⟨rfl, ret_b (bs := [(c_Store (⟨(⟨x43.1, a1.Disks.x1⟩ : Arr2Disk), a1.Current, a1.Number, a1.Base, a1.Count⟩ : Store)), (c_Store (⟨(⟨x44.1, a2.Disks.x1⟩ : Arr2Disk), a2.Current, a2.Number, a2.Base, a2.Count⟩ : Store))]) r1 rfl rfl rfl rfl rfl (by intro i cs h; rcases i with _ | _ | i <;> simp at h <;> (subst h; rfl)) ?_⟩
        (repeat' (first | exact .refl _ | exact .nil | refine .tup ?_ | refine .v ?_ | refine .cons ?_ ?_ | refine .agg ?_ | refine .one ?_ | exact .nil _ | exact .emp _ | refine .val ?_ | refine .slc ?_ ?_ | fail))
      replace h := Md.cond_f h c46
      refine aw_skip ?_
      obtain ⟨x49, hx49, h⟩ := Md.bind_s h
      obtain ⟨x50, hx50, h⟩ := Md.bind_s h
      refine aw_seq ?_
      apply aw_draw 7 ((⟨[], .one (.ptr 0 _)⟩ : Add) :: ⟨[], .one (.ptr 0 _)⟩ :: ⟨[], .agg (c_Store a1)⟩ :: ⟨[], vB x49⟩ :: ⟨[], .one (.ptr 1 _)⟩ :: ⟨[], .one (.ptr 1 _)⟩ :: ⟨[], .agg (c_Store a2)⟩ :: []) (by decide) rfl ?hk25x ?hf25x ?ho25x ?hr25x
      case ho25x =>
       refine ob [] (fun S hle hfr => .inl ⟨w0, st_move (hle.e rfl) (hle.d rfl)⟩) (ob [0] (fun S hle hfr => .inl ⟨w0, ev_nilc (hle.e rfl) (hle.d rfl)⟩) ?_)
       refine ob [1, 0] (fun S hle hfr => .inl ⟨w0, ev_loads (ds := [_, _, _, _, _, _, _, _, _, _, _, _, _, _, _, _]) (hle.e rfl) (hle.heap _ _ rfl) rfl rfl (hle.d rfl)⟩) ?_
       refine ob [2, 1, 0] (fun S hle hfr => .inl ⟨w0, ev_call_v (store_Valid_fn k a1 x49 hx49) (map_ev (.cons (hle.e rfl) (.nil))) [] (by repeat' (first | exact .nil | refine .cons ?_ ?_ | refine .one ?_ | refine .agg ?_ | exact .mk rfl | exact .lend (hle.heap _ _ rfl) (by simp) | exact .le (.nil _) rfl | exact .le (.emp _) rfl | exact .le (.any _) rfl | fail)) rfl rfl rfl (.inl rfl) (hle.d rfl)⟩) ?_
       refine ob [] (fun S hle hfr => .inl ⟨w0, st_move (hle.e rfl) (hle.d rfl)⟩) (ob [4] (fun S hle hfr => .inl ⟨w0, ev_nilc (hle.e rfl) (hle.d rfl)⟩) ?_)
       refine ob [5, 4] (fun S hle hfr => .inl ⟨w0, ev_loads (ds := [_, _, _, _, _, _, _, _, _, _, _, _, _, _, _, _]) (hle.e rfl) (hle.heap _ _ rfl) rfl rfl (hle.d rfl)⟩) ?_
       exact trivial
      case hk25x => rfl
      case hf25x => rfl
      refine aops_step1 rfl (ev_call_v (actorgridref26_ValidStore_fn k a2 x50 hx50) rfl [] ai rfl rfl rfl (.inl rfl) rfl) ?_
      refine aops_step1 rfl (ev_bool_eq rfl rfl rfl Try.underlying4 rfl) (s_sa ?_)
      refine aops_nil ?_
      cases Option.some.inj h
      refine aw_ret ⟨rfl, ret_b (bs := [(c_Store a1), (c_Store a2)]) r1 rfl rfl rfl rfl rfl (by intro i cs h; rcases i with _ | _ | i <;> simp at h <;> (subst h; rfl)) ?_⟩
      (repeat' (first | exact .refl _ | exact .nil | refine .tup ?_ | refine .v ?_ | refine .cons ?_ ?_ | refine .agg ?_ | refine .one ?_ | exact .nil _ | exact .emp _ | refine .val ?_ | refine .slc ?_ ?_ | fail))
    replace h := Md.cond_f h q42
    obtain ⟨g51, h⟩ := Md.ifp_s h
    obtain ⟨x52, hx52, h⟩ := Md.bind_s h
    refine aw_seq_mid (⟨164, [0, 1], [(1, .one (.ptr 0 0)), (2, .one (.ptr 1 0)), (3, .one (.ptr 2 0)), (15, vI (((a0.Writes.toNat % 2) : Nat) : Int)), (16, .one (.ptr 3 0)), (17, vI x52.2)], [(0, some (.box (c_Store a1))), (1, some (.box (c_Store a2))), (2, some (.box (c_Actorgridlaw28Act a0))), (3, some (.box (c_Disk x52.1)))]⟩ : ASt) ?_ ?_
    ·
      apply aw_late 19 17 ((⟨[], .one (.ptr 0 _)⟩ : Add) :: ⟨[], vI (((a0.Writes.toNat % 2) : Nat) : Int)⟩ :: ⟨[], .one (.ptr 0 _)⟩ :: ⟨[], .one (.ptr 0 _)⟩ :: ⟨[], .one (.ptr 0 _)⟩ :: ⟨[], .agg (c_Disk a1.Disks.x1)⟩ :: ⟨[], .one (.ptr 2 _)⟩ :: ⟨[], .one (.val (.int .u8 (a0.Writes.toNat : Int)))⟩ :: ⟨[], .one (.val (.int .u8 (((a0.Writes / (2 : UInt8))).toNat : Int)))⟩ :: ⟨[], .one (.val (.int .u8 ((((a0.Writes / (2 : UInt8)) % (5 : UInt8))).toNat : Int)))⟩ :: ⟨[], vI ((((a0.Writes / (2 : UInt8)) % (5 : UInt8)).toNat : Nat) : Int)⟩ :: ⟨[], .one (.ptr 2 _)⟩ :: ⟨[], .one (.val (.int .u8 (a0.Keep.toNat : Int)))⟩ :: ⟨[], vI ((a0.Keep.toNat : Nat) : Int)⟩ :: ⟨[], .tup [.agg (c_Disk x52.1), vI x52.2]⟩ :: ⟨[], .tup [.agg (c_Disk x52.1), vI x52.2]⟩ :: ⟨[], .agg (c_Disk x52.1)⟩ :: ⟨[], vI x52.2⟩ :: ⟨[(3, some (.box [.val (.slice none 0 0), cI 0, cB false, cI 0, cI 0, cB false]))], .one (.ptr 3 _)⟩ :: []) (by decide) (by decide) rfl rfl rfl ?hk26x ?hf26x ?ho26x ?hr26x ?hl26x
      case ho26x =>
       refine ob [] (fun S hle hfr => .inl ⟨w0, st_move (hle.e rfl) (hle.d rfl)⟩) (ob [] (fun S hle hfr => .inl ⟨w0, st_move (hle.e rfl) (hle.d rfl)⟩) ?_)
       refine ob [0] (fun S hle hfr => .inl ⟨w0, ev_nilc (hle.e rfl) (hle.d rfl)⟩) (ob [2, 0] (fun S hle hfr => .inl ⟨w0, ev_field (hle.e rfl) rfl (hle.d rfl)⟩) ?_)
       refine ob [3, 1, 2, 0] (fun S hle hfr => .inl ⟨w0, ev_index_arr (j := 1) (hle.e rfl) (hle.e rfl) g51 rfl (hle.d rfl)⟩) ?_
       refine ob [4, 3, 1, 2, 0] (fun S hle hfr => .inl ⟨w0, ev_loads (ds := [_, _, _, _, _, _]) (hle.e rfl) (hle.heap _ _ rfl) rfl rfl (hle.d rfl)⟩) ?_
       refine ob [] (fun S hle hfr => .inl ⟨w0, ev_field (hle.e rfl) rfl (hle.d rfl)⟩) ?_
       refine ob [6] (fun S hle hfr => .inl ⟨w0, ev_load (hle.e rfl) (hle.heap _ _ rfl) rfl (hle.d rfl)⟩) ?_
       refine ob [7, 6] (fun S hle hfr => .inl ⟨w0, ev_quo (hle.e rfl) (hle.e rfl) (hle.d rfl) (by decide) (Md.quo_u8 a0.Writes (2 : UInt8))⟩) ?_
       refine ob [8, 7, 6] (fun S hle hfr => .inl ⟨w0, ev_rem (hle.e rfl) (hle.e rfl) (hle.d rfl) (by decide) (Md.rem_u8 (a0.Writes / (2 : UInt8)) (5 : UInt8))⟩) ?_
       refine ob [9, 8, 7, 6] (fun S hle hfr => .inl ⟨w0, st_conv_int (hle.e rfl) (hle.d rfl) Try.underlying5 Try.underlying3 (Md.conv_u8_i64 ((a0.Writes / (2 : UInt8)) % (5 : UInt8)))⟩) ?_
       refine ob [] (fun S hle hfr => .inl ⟨w0, ev_field (hle.e rfl) rfl (hle.d rfl)⟩) ?_
       refine ob [11] (fun S hle hfr => .inl ⟨w0, ev_load (hle.e rfl) (hle.heap _ _ rfl) rfl (hle.d rfl)⟩) ?_
       refine ob [12, 11] (fun S hle hfr => .inl ⟨w0, st_conv_int (hle.e rfl) (hle.d rfl) Try.underlying5 Try.underlying3 (Md.conv_u8_i64 a0.Keep)⟩) ?_
       refine ob [5, 10, 13, 4, 9, 12, 3, 1, 8, 11, 2, 7, 0, 6] (fun S hle hfr => .inl ⟨w0, ev_call_v (disk_Arm_fn k a1.Disks.x1 ((((a0.Writes / (2 : UInt8)) % (5 : UInt8)).toNat : Nat) : Int) ((a0.Keep.toNat : Nat) : Int) x52 hx52) (map_ev (.cons (hle.e rfl) (.cons (hle.e rfl) (.cons (hle.e rfl) (.nil))))) [] (by repeat' (first | exact .nil | refine .cons ?_ ?_ | refine .one ?_ | refine .agg ?_ | exact .mk rfl | exact .lend (hle.heap _ _ rfl) (by simp) | exact .le (.nil _) rfl | exact .le (.emp _) rfl | exact .le (.any _) rfl | fail)) rfl rfl rfl (.inl rfl) (hle.d rfl)⟩) ?_
       refine ob [14, 5, 10, 13, 4, 9, 12, 3, 1, 8, 11, 2, 7, 0, 6] (fun S hle hfr => .inl ⟨w0, st_movet (hle.e rfl) (hle.d rfl)⟩) ?_
       refine ob [15, 14, 5, 10, 13, 4, 9, 12, 3, 1, 8, 11, 2, 7, 0, 6] (fun S hle hfr => .inl ⟨w0, ev_extract (hle.e rfl) rfl (hle.d rfl)⟩) ?_
       refine ob [15, 14, 5, 10, 13, 4, 9, 12, 3, 1, 8, 11, 2, 7, 0, 6] (fun S hle hfr => .inl ⟨w0, ev_extract (hle.e rfl) rfl (hle.d rfl)⟩) ?_
       refine ob [] (fun S hle hfr => .inl ⟨w0, st_alloc (cs := [.val (.slice none 0 0), cI 0, cB false, cI 0, cI 0, cB false]) 3 (hfr _ (List.mem_singleton.2 rfl)) rfl rfl rfl (hle.d rfl)⟩) ?_
       exact trivial
      case hk26x => rfl
      case hf26x => rfl
      case hr26x =>
       refine s_st [_, _, _, _, _, _] ?_
       refine s_sa ?_
       refine aops_nil ?_
       exact wk
      case hl26x =>
       refine s_st [_, _, _, _, _, _] ?_
       refine s_ex ?_
       refine s_sa ?_
       refine aops_nil ?_
       exact wk
    obtain ⟨g53, h⟩ := Md.ifp_s h
    obtain ⟨x54, hx54, h⟩ := Md.bind_s h
    refine aw_seq_mid (⟨164, [0, 1], [(1, .one (.ptr 0 0)), (2, .one (.ptr 1 0)), (15, vI (((a0.Writes.toNat % 2) : Nat) : Int)), (16, .one (.ptr 3 0)), (17, vI x52.2), (18, .one (.ptr 4 0)), (19, vI x54.2)], [(0, some (.box (c_Store a1))), (1, some (.box (c_Store a2))), (3, some (.box (c_Disk x52.1))), (4, some (.box (c_Disk x54.1)))]⟩ : ASt) ?_ ?_
    ·
      apply aw_late 19 17 ((⟨[], .one (.ptr 1 _)⟩ : Add) :: ⟨[], vI (((a0.Writes.toNat % 2) : Nat) : Int)⟩ :: ⟨[], .one (.ptr 1 _)⟩ :: ⟨[], .one (.ptr 1 _)⟩ :: ⟨[], .one (.ptr 1 _)⟩ :: ⟨[], .agg (c_Disk a2.Disks.x1)⟩ :: ⟨[], .one (.ptr 2 _)⟩ :: ⟨[], .one (.val (.int .u8 (a0.Writes.toNat : Int)))⟩ :: ⟨[], .one (.val (.int .u8 (((a0.Writes / (2 : UInt8))).toNat : Int)))⟩ :: ⟨[], .one (.val (.int .u8 ((((a0.Writes / (2 : UInt8)) % (5 : UInt8))).toNat : Int)))⟩ :: ⟨[], vI ((((a0.Writes / (2 : UInt8)) % (5 : UInt8)).toNat : Nat) : Int)⟩ :: ⟨[], .one (.ptr 2 _)⟩ :: ⟨[], .one (.val (.int .u8 (a0.Keep.toNat : Int)))⟩ :: ⟨[], vI ((a0.Keep.toNat : Nat) : Int)⟩ :: ⟨[], .tup [.agg (c_Disk x54.1), vI x54.2]⟩ :: ⟨[], .tup [.agg (c_Disk x54.1), vI x54.2]⟩ :: ⟨[], .agg (c_Disk x54.1)⟩ :: ⟨[], vI x54.2⟩ :: ⟨[(4, some (.box [.val (.slice none 0 0), cI 0, cB false, cI 0, cI 0, cB false]))], .one (.ptr 4 _)⟩ :: []) (by decide) (by decide) rfl rfl rfl ?hk27x ?hf27x ?ho27x ?hr27x ?hl27x
      case ho27x =>
       refine ob [] (fun S hle hfr => .inl ⟨w0, st_move (hle.e rfl) (hle.d rfl)⟩) (ob [] (fun S hle hfr => .inl ⟨w0, st_move (hle.e rfl) (hle.d rfl)⟩) ?_)
       refine ob [0] (fun S hle hfr => .inl ⟨w0, ev_nilc (hle.e rfl) (hle.d rfl)⟩) (ob [2, 0] (fun S hle hfr => .inl ⟨w0, ev_field (hle.e rfl) rfl (hle.d rfl)⟩) ?_)
       refine ob [3, 1, 2, 0] (fun S hle hfr => .inl ⟨w0, ev_index_arr (j := 1) (hle.e rfl) (hle.e rfl) g53 rfl (hle.d rfl)⟩) ?_
       refine ob [4, 3, 1, 2, 0] (fun S hle hfr => .inl ⟨w0, ev_loads (ds := [_, _, _, _, _, _]) (hle.e rfl) (hle.heap _ _ rfl) rfl rfl (hle.d rfl)⟩) ?_
       refine ob [] (fun S hle hfr => .inl ⟨w0, ev_field (hle.e rfl) rfl (hle.d rfl)⟩) ?_
       refine ob [6] (fun S hle hfr => .inl ⟨w0, ev_load (hle.e rfl) (hle.heap _ _ rfl) rfl (hle.d rfl)⟩) ?_
       refine ob [7, 6] (fun S hle hfr => .inl ⟨w0, ev_quo (hle.e rfl) (hle.e rfl) (hle.d rfl) (by decide) (Md.quo_u8 a0.Writes (2 : UInt8))⟩) ?_
       refine ob [8, 7, 6] (fun S hle hfr => .inl ⟨w0, ev_rem (hle.e rfl) (hle.e rfl) (hle.d rfl) (by decide) (Md.rem_u8 (a0.Writes / (2 : UInt8)) (5 : UInt8))⟩) ?_
       refine ob [9, 8, 7, 6] (fun S hle hfr => .inl ⟨w0, st_conv_int (hle.e rfl) (hle.d rfl) Try.underlying5 Try.underlying3 (Md.conv_u8_i64 ((a0.Writes / (2 : UInt8)) % (5 : UInt8)))⟩) ?_
       refine ob [] (fun S hle hfr => .inl ⟨w0, ev_field (hle.e rfl) rfl (hle.d rfl)⟩) ?_
       refine ob [11] (fun S hle hfr => .inl ⟨w0, ev_load (hle.e rfl) (hle.heap _ _ rfl) rfl (hle.d rfl)⟩) ?_
       refine ob [12, 11] (fun S hle hfr => .inl ⟨w0, st_conv_int (hle.e rfl) (hle.d rfl) Try.underlying5 Try.underlying3 (Md.conv_u8_i64 a0.Keep)⟩) ?_
       refine ob [5, 10, 13, 4, 9, 12, 3, 1, 8, 11, 2, 7, 0, 6] (fun S hle hfr => .inl ⟨w0, ev_call_v (actorgridref26_Arm_fn k a2.Disks.x1 ((((a0.Writes / (2 : UInt8)) % (5 : UInt8)).toNat : Nat) : Int) ((a0.Keep.toNat : Nat) : Int) x54 hx54) (map_ev (.cons (hle.e rfl) (.cons (hle.e rfl) (.cons (hle.e rfl) (.nil))))) [] (by repeat' (first | exact .nil | refine .cons ?_ ?_ | refine .one ?_ | refine .agg ?_ | exact .mk rfl | exact .lend (hle.heap _ _ rfl) (by simp) | exact .le (.nil _) rfl | exact .le (.emp _) rfl | exact .le (.any _) rfl | fail)) rfl rfl rfl (.inl rfl) (hle.d rfl)⟩) ?_
       refine ob [14, 5, 10, 13, 4, 9, 12, 3, 1, 8, 11, 2, 7, 0, 6] (fun S hle hfr => .inl ⟨w0, st_movet (hle.e rfl) (hle.d rfl)⟩) ?_
       refine ob [15, 14, 5, 10, 13, 4, 9, 12, 3, 1, 8, 11, 2, 7, 0, 6] (fun S hle hfr => .inl ⟨w0, ev_extract (hle.e rfl) rfl (hle.d rfl)⟩) ?_
       refine ob [15, 14, 5, 10, 13, 4, 9, 12, 3, 1, 8, 11, 2, 7, 0, 6] (fun S hle hfr => .inl ⟨w0, ev_extract (hle.e rfl) rfl (hle.d rfl)⟩) ?_
       refine ob [] (fun S hle hfr => .inl ⟨w0, st_alloc (cs := [.val (.slice none 0 0), cI 0, cB false, cI 0, cI 0, cB false]) 4 (hfr _ (List.mem_singleton.2 rfl)) rfl rfl rfl (hle.d rfl)⟩) ?_
       exact trivial
      case hk27x => rfl
      case hf27x => rfl
      case hr27x =>
       refine s_st [_, _, _, _, _, _] ?_
       refine s_sa ?_
       refine aops_nil ?_
       exact wk
      case hl27x =>
       refine s_st [_, _, _, _, _, _] ?_
       refine s_ex ?_
       refine s_sa ?_
       refine aops_nil ?_
       exact wk
    refine aw_seq (aw_seq (aw_region ?_))
    iterate 2 refine s_mv ?_
    refine s_cm ?_
    refine aops_nil ?_
    refine aw_cond rfl (fun c55 => ?_) (fun c55 => ?_)
    · replace h := Md.cond_t h c55
      refine aw_seq (aw_region (s_sa ?_))
      refine aops_nil ?_
      cases Option.some.inj h
      refine aw_ret ⟨rfl, ret_b (bs := [(c_Store a1), (c_Store a2)]) r1 rfl rfl rfl rfl rfl (by intro i cs h; rcases i with _ | _ | i <;> simp at h <;> (subst h; rfl)) ?_⟩
      (repeat' (first | exact .refl _ | exact .nil | refine .tup ?_ | refine .v ?_ | refine .cons ?_ ?_ | refine .agg ?_ | refine .one ?_ | exact .nil _ | exact .emp _ | refine .val ?_ | refine .slc ?_ ?_ | fail))
    replace h := Md.cond_f h c55
    refine aw_skip (aw_seq (aw_region (s_mv ?_)))
    refine s_cm ?_
    refine aops_nil ?_
    refine aw_cond rfl (fun c56 => ?_) (fun c56 => ?_)
    · replace h := Md.cond_t h c56
      obtain ⟨g57, h⟩ := Md.ifp_s h
      obtain ⟨g58, h⟩ := Md.ifp_s h
      apply aw_draw_stores 12 [(9, [8, 4, 0, 1, 7, 6], 0, (c_Disk a1.Disks.x0 ++ c_Disk x52.1 ++ [cI a1.Current, cI a1.Number, cI a1.Base, cI a1.Count]))] ((⟨[], .one (.ptr 0 _)⟩ : Add) :: ⟨[], vI (((a0.Writes.toNat % 2) : Nat) : Int)⟩ :: ⟨[], .one (.ptr 1 _)⟩ :: ⟨[], vI (((a0.Writes.toNat % 2) : Nat) : Int)⟩ :: ⟨[], .agg (c_Disk x52.1)⟩ :: ⟨[], .agg (c_Disk x54.1)⟩ :: ⟨[], .one (.ptr 0 _)⟩ :: ⟨[], .one (.ptr 0 _)⟩ :: ⟨[], .one (.ptr 0 _)⟩ :: ⟨[], .one .any⟩ :: ⟨[], .one (.ptr 1 _)⟩ :: ⟨[], .one (.ptr 1 _)⟩ :: []) (by decide) rfl ?hk28x ?hf28x ?ho28x ?hv28x ?hr28x
      case ho28x =>
       refine ⟨.inr ⟨[], [], (by decide +kernel), (by decide +kernel), ⟨?_, .inl rfl⟩⟩, ?_⟩
       · refine .inr (.inr fun S hle hfr => ?_)
         exact .inl ⟨w0, st_move (hle.e rfl) (hle.d rfl)⟩
       refine ⟨.inr ⟨[], [], (by decide +kernel), (by decide +kernel), ⟨?_, .inl rfl⟩⟩, ?_⟩
       · refine .inr (.inr fun S hle hfr => ?_)
         exact .inl ⟨w0, st_move (hle.e rfl) (hle.d rfl)⟩
       refine ⟨.inr ⟨[], [], (by decide +kernel), (by decide +kernel), ⟨?_, ?_⟩⟩, ?_⟩
       · refine .inr (.inr fun S hle hfr => ?_)
         exact .inl ⟨w0, st_move (hle.e rfl) (hle.d rfl)⟩
       · refine .inr fun S hle hfr => ?_
         exact .inl ⟨w0, st_move (hle.e rfl) (hle.d rfl)⟩
       refine ⟨.inr ⟨[], [], (by decide +kernel), (by decide +kernel), ⟨?_, ?_⟩⟩, ?_⟩
       · refine .inr (.inr fun S hle hfr => ?_)
         exact .inl ⟨w0, st_move (hle.e rfl) (hle.d rfl)⟩
       · refine .inr fun S hle hfr => ?_
         exact .inl ⟨w0, st_move (hle.e rfl) (hle.d rfl)⟩
       refine ⟨.inr ⟨[], [], (by decide +kernel), (by decide +kernel), ⟨?_, .inl rfl⟩⟩, ?_⟩
       · refine .inr (.inr fun S hle hfr => ?_)
         exact .inl ⟨w0, ev_loads (ds := [_, _, _, _, _, _]) (hle.e rfl) (hle.heap _ _ rfl) rfl rfl (hle.d rfl)⟩
       refine ⟨.inr ⟨[], [], (by decide +kernel), (by decide +kernel), ⟨?_, ?_⟩⟩, ?_⟩
       · refine .inr (.inr fun S hle hfr => ?_)
         exact .inl ⟨w0, ev_loads (ds := [_, _, _, _, _, _]) (hle.e rfl) (hle.heap _ _ rfl) rfl rfl (hle.d rfl)⟩
       · refine .inr fun S hle hfr => ?_
         exact .inl ⟨w0, ev_loads (ds := [_, _, _, _, _, _]) (hle.e rfl) (hle.heap _ _ rfl) rfl rfl (hle.d rfl)⟩
       refine ⟨.inr ⟨0 :: [], [], (by decide +kernel), (by decide +kernel), ⟨?_, .inl rfl⟩⟩, ?_⟩
       · refine .inr (.inr fun S hle hfr => ?_)
         exact .inl ⟨w0, ev_nilc (hle.e rfl) (hle.d rfl)⟩
       refine ⟨.inr ⟨6 :: 0 :: [], [], (by decide +kernel), (by decide +kernel), ⟨?_, .inl rfl⟩⟩, ?_⟩
       · refine .inr (.inr fun S hle hfr => ?_)
         exact .inl ⟨w0, ev_field (hle.e rfl) rfl (hle.d rfl)⟩
       refine ⟨.inr ⟨7 :: 1 :: 0 :: 4 :: 6 :: [], [], (by decide +kernel), (by decide +kernel), ⟨?_, .inl rfl⟩⟩, ?_⟩
       · refine .inr (.inr fun S hle hfr => ?_)
         exact .inl ⟨w0, ev_index_arr (j := 1) (hle.e rfl) (hle.e rfl) g57 rfl (hle.d rfl)⟩
       refine ⟨.inl rfl, ?_⟩
       refine ⟨.inr ⟨2 :: [], [], (by decide +kernel), (by decide +kernel), ⟨?_, ?_⟩⟩, ?_⟩
       · refine .inr (.inr fun S hle hfr => ?_)
         exact .inl ⟨w0, ev_nilc (hle.e rfl) (hle.d rfl)⟩
       · refine .inr fun S hle hfr => ?_
         exact .inl ⟨w0, ev_nilc (hle.e rfl) (hle.d rfl)⟩
       refine ⟨.inr ⟨10 :: 2 :: [], [], (by decide +kernel), (by decide +kernel), ⟨?_, ?_⟩⟩, ?_⟩
       · refine .inr (.inr fun S hle hfr => ?_)
         exact .inl ⟨w0, ev_field (hle.e rfl) rfl (hle.d rfl)⟩
       · refine .inr fun S hle hfr => ?_
         exact .inl ⟨w0, ev_field (hle.e rfl) rfl (hle.d rfl)⟩
       exact trivial
      case hv28x =>
       refine ⟨⟨rfl, rfl, (by decide +kernel), rfl, rfl, _, _, rfl, rfl, rfl, fun S hle => st_store (cs' := [_, _, _, _, _, _, _, _, _, _, _, _, _, _, _, _]) (hle.e rfl) (hle.heap _ _ rfl) (hle.e rfl) rfl rfl rfl rfl (hle.d rfl) rfl⟩, ?_⟩
       exact trivial
      case hk28x => rfl
      case hf28x => rfl
      refine aops_step1 rfl (ev_index_arr (j := 1) rfl rfl g58 rfl rfl) (s_st [_, _, _, _, _, _, _, _, _, _, _, _, _, _, _, _] ?_)
      refine aops_nil ?_
      obtain ⟨x59, hx59, h⟩ := Md.bind_s h
      obtain ⟨x60, hx60, h⟩ := Md.bind_s h
      refine aw_seq ?_
      apply aw_draw 7 ((⟨[], .one (.ptr 0 _)⟩ : Add) :: ⟨[], .one (.ptr 0 _)⟩ :: ⟨[], .agg (c_Disk a1.Disks.x0 ++ c_Disk x52.1 ++ [cI a1.Current, cI a1.Number, cI a1.Base, cI a1.Count])⟩ :: ⟨[], vB x59⟩ :: ⟨[], .one (.ptr 1 _)⟩ :: ⟨[], .one (.ptr 1 _)⟩ :: ⟨[], .agg (c_Disk a2.Disks.x0 ++ c_Disk x54.1 ++ [cI a2.Current, cI a2.Number, cI a2.Base, cI a2.Count])⟩ :: []) (by decide) rfl ?hk29x ?hf29x ?ho29x ?hr29x
      case ho29x =>
       refine ob [] (fun S hle hfr => .inl ⟨w0, st_move (hle.e rfl) (hle.d rfl)⟩) (ob [0] (fun S hle hfr => .inl ⟨w0, ev_nilc (hle.e rfl) (hle.d rfl)⟩) ?_)
       refine ob [1, 0] (fun S hle hfr => .inl ⟨w0, ev_loads (ds := [_, _, _, _, _, _, _, _, _, _, _, _, _, _, _, _]) (hle.e rfl) (hle.heap _ _ rfl) rfl rfl (hle.d rfl)⟩) ?_
       refine ob [2, 1, 0] (fun S hle hfr => .inl ⟨w0, ev_call_v (store_Valid_fn k (⟨(⟨a1.Disks.x0, x52.1⟩ : Arr2Disk), a1.Current, a1.Number, a1.Base, a1.Count⟩ : Store) x59 hx59) (map_ev (.cons (hle.e rfl) (.nil))) [] (by repeat' (first | exact .nil | refine .cons ?_ ?_ | refine .one ?_ | refine .agg ?_ | exact .mk rfl | exact .lend (hle.heap _ _ rfl) (by simp) | exact .le (.nil _) rfl | exact .le (.emp _) rfl | exact .le (.any _) rfl | fail)) rfl rfl rfl (.inl rfl) (hle.d rfl)⟩) ?_
       refine ob [] (fun S hle hfr => .inl ⟨w0, st_move (hle.e rfl) (hle.d rfl)⟩) (ob [4] (fun S hle hfr => .inl ⟨w0, ev_nilc (hle.e rfl) (hle.d rfl)⟩) ?_)
       refine ob [5, 4] (fun S hle hfr => .inl ⟨w0, ev_loads (ds := [_, _, _, _, _, _, _, _, _, _, _, _, _, _, _, _]) (hle.e rfl) (hle.heap _ _ rfl) rfl rfl (hle.d rfl)⟩) ?_
       exact trivial
      case hk29x => rfl
      case hf29x => rfl
      refine aops_step1 rfl (ev_call_v (actorgridref26_ValidStore_fn k (⟨(⟨a2.Disks.x0, x54.1⟩ : Arr2Disk), a2.Current, a2.Number, a2.Base, a2.Count⟩ : Store) x60 hx60) rfl [] ai rfl rfl rfl (.inl rfl) rfl) ?_
      refine aops_step1 rfl (ev_bool_eq rfl rfl rfl Try.underlying4 rfl) (s_sa ?_)
      refine aops_nil ?_
      cases Option.some.inj h
      refine aw_ret ⟨rfl, ret_b (bs := [(c_Store (⟨(⟨a1.Disks.x0, x52.1⟩ : Arr2Disk), a1.Current, a1.Number, a1.Base, a1.Count⟩ : Store)), (c_Store (⟨(⟨a2.Disks.x0, x54.1⟩ : Arr2Disk), a2.Current, a2.Number, a2.Base, a2.Count⟩ : Store))]) r1 rfl rfl rfl rfl rfl (by intro i cs h; rcases i with _ | _ | i <;> simp at h <;> (subst h; rfl)) ?_⟩
      (repeat' (first | exact .refl _ | exact .nil | refine .tup ?_ | refine .v ?_ | refine .cons ?_ ?_ | refine .agg ?_ | refine .one ?_ | exact .nil _ | exact .emp _ | refine .val ?_ | refine .slc ?_ ?_ | fail))
    replace h := Md.cond_f h c56
    refine aw_skip ?_
    obtain ⟨x61, hx61, h⟩ := Md.bind_s h
    obtain ⟨x62, hx62, h⟩ := Md.bind_s h
    refine aw_seq ?_
    apply aw_draw 7 ((⟨[], .one (.ptr 0 _)⟩ : Add) :: ⟨[], .one (.ptr 0 _)⟩ :: ⟨[], .agg (c_Store a1)⟩ :: ⟨[], vB x61⟩ :: ⟨[], .one (.ptr 1 _)⟩ :: ⟨[], .one (.ptr 1 _)⟩ :: ⟨[], .agg (c_Store a2)⟩ :: []) (by decide) rfl ?hk30x ?hf30x ?ho30x ?hr30x
    case ho30x =>
     refine ob [] (fun S hle hfr => .inl ⟨w0, st_move (hle.e rfl) (hle.d rfl)⟩) (ob [0] (fun S hle hfr => .inl ⟨w0, ev_nilc (hle.e rfl) (hle.d rfl)⟩) ?_)
     refine ob [1, 0] (fun S hle hfr => .inl ⟨w0, ev_loads (ds := [_, _, _, _, _, _, _, _, _, _, _, _, _, _, _, _]) (hle.e rfl) (hle.heap _ _ rfl) rfl rfl (hle.d rfl)⟩) ?_
     refine ob [2, 1, 0] (fun S hle hfr => .inl ⟨w0, ev_call_v (store_Valid_fn k a1 x61 hx61) (map_ev (.cons (hle.e rfl) (.nil))) [] (by repeat' (first | exact .nil | refine .cons ?_ ?_ | refine .one ?_ | refine .agg ?_ | exact .mk rfl | exact .lend (hle.heap _ _ rfl) (by simp) | exact .le (.nil _) rfl | exact .le (.emp _) rfl | exact .le (.any _) rfl | fail)) rfl rfl rfl (.inl rfl) (hle.d rfl)⟩) ?_
     refine ob [] (fun S hle hfr => .inl ⟨w0, st_move (hle.e rfl) (hle.d rfl)⟩) (ob [4] (fun S hle hfr => .inl ⟨w0, ev_nilc (hle.e rfl) (hle.d rfl)⟩) ?_)
     refine ob [5, 4] (fun S hle hfr => .inl ⟨w0, ev_loads (ds := [_, _, _, _, _, _, _, _, _, _, _, _, _, _, _, _]) (hle.e rfl) (hle.heap _ _ rfl) rfl rfl (hle.d rfl)⟩) ?_
     exact trivial
    case hk30x => rfl
    case hf30x => rfl
    refine aops_step1 rfl (ev_call_v (actorgridref26_ValidStore_fn k a2 x62 hx62) rfl [] ai rfl rfl rfl (.inl rfl) rfl) ?_
    refine aops_step1 rfl (ev_bool_eq rfl rfl rfl Try.underlying4 rfl) (s_sa ?_)
    refine aops_nil ?_
    cases Option.some.inj h
    refine aw_ret ⟨rfl, ret_b (bs := [(c_Store a1), (c_Store a2)]) r1 rfl rfl rfl rfl rfl (by intro i cs h; rcases i with _ | _ | i <;> simp at h <;> (subst h; rfl)) ?_⟩
    (repeat' (first | exact .refl _ | exact .nil | refine .tup ?_ | refine .v ?_ | refine .cons ?_ ?_ | refine .agg ?_ | refine .one ?_ | exact .nil _ | exact .emp _ | refine .val ?_ | refine .slc ?_ ?_ | fail))
  replace h := Md.cond_f h c41
  refine aw_seq (aw_region ?_)
  iterate 2 refine s_mv ?_
  obtain ⟨x63, hx63, h⟩ := Md.bind_s h
  refine aops_step1 rfl (ev_call_b [0, 1] (actorgridlaw28_restart_fn k a1 a2 x63 hx63) rfl [] ai rfl rfl rfl rfl rfl rfl (.cons rfl (.cons rfl .nil)) rfl rfl rfl (.inl rfl) rfl) (s_sa ?_)
  refine aops_nil ?_
  cases Option.some.inj h
  refine aw_ret ⟨rfl, ret_b (bs := [(c_Store x63.2.1), (c_Store x63.2.2)]) r1 rfl rfl rfl rfl rfl (by intro i cs h; rcases i with _ | _ | i <;> simp at h <;> (subst h; rfl)) ?_⟩
  (repeat' (first | exact .refl _ | exact .nil | refine .tup ?_ | refine .v ?_ | refine .cons ?_ ?_ | refine .agg ?_ | refine .one ?_ | exact .nil _ | exact .emp _ | refine .val ?_ | refine .slc ?_ ?_ | fail))
end Md
end Go.Proofs.Ytkcfkcgclljncaa
