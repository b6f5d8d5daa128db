import Derived.Test.YtbijabmjbgplbaaGreatDoorTie
import Derived.Test.YtbijabmjbgplbaaGreatDoorCards
import Derived.LaidMore
import Derived.Stop.Joined
import Derived.SevenTiedAt
import Derived.Test.YtbijabmjbgplbaaGreatDoorRows
import Derived.Test.YtbijabmjbgplbaaGreatDoorQ10
import Derived.Test.YtbijabmjbgplbaaGreatDoorQ9
import Derived.WalkKit
import Derived.ProofKit
import Derived.OpenShut
import Derived.ShutString
import Derived.ChangeOld
import Derived.Below
import Derived.Lib.SmallJoins
/- TopLanguage, called with any six arguments wherever the card calls it, ends and answers true; its arguments stand as they stood. Conditions: none beyond the card (TopLanguageCardSaid). -/
set_option linter.unusedVariables false
set_option linter.unusedSimpArgs false
namespace Go.Proofs.YtbijabmjbgplbaaGreatDoor.TopLanguageP
open Md
open Go.ChangeShapes Go.WideShapes Go.ChangeAt Go.RowKit
open Go.ChangeMaps (open_string shut_string)
theorem own:ownKnob Tryz.prog.godebug=none:=by kernel_rfl
theorem laidOut:laidOutB Tryz.prog=true:=by kernel_rfl
theorem door_met (os:Os) (args:Array Value):laidMetH Tryz.prog Rows.topLanguageRow.laid ((World.doorLaid Tryz.prog 400 os).forCall (fun _ _=>0) ⟨#[],args,[]⟩).memory:=by
 rw [MakeChecks.laidMetH_plain _ _ _ (by kernel_rfl)];exact laidMet_of_run' 8 (by kernel_rfl) (by kernel_rfl)
set_option maxRecDepth 100000 in
theorem lifted (os:Os) (started:os.Started) (H:Type) (enc:TypeId×Value->H) :
  ReturnsInHanded {} Tryz.checked os 3 .any (fun w args=>(Rows.topLanguageSpec.pre enc Tryz.prog Tryz.f3 [] false w args/\laidMetH Tryz.prog Rows.topLanguageRow.laid w)/\sizedMet enc Tryz.prog Tryz.f3 (OpenSpec.ofChange Rows.topLanguageSpec) false w args) (Rows.topLanguageSpec.post enc Tryz.prog Tryz.f3 false true false false):=by
 refine returnsInHanded_of_change_and (C:=Tryz.checked) (X:=fun w _=>laidMetH Tryz.prog Rows.topLanguageRow.laid w) (fun _ _ _ hh h=>h.of_heap hh) own started (by kernel_rfl) Tryz.func3
  (ChangeSpec.witness_shaped (enc:=enc) (C:=Tryz.checked) (os:=os) (X:=fun w _=>laidMetH Tryz.prog Rows.topLanguageRow.laid w) false (World.doorLaid Tryz.prog 400 os) #[.string ByteArray.empty,.string ByteArray.empty,.string ByteArray.empty,.string ByteArray.empty,.slice none 0 0,.slice none 0 0] 8 rfl (World.shaped_of_RefB (by kernel_rfl) (by kernel_rfl)) (by kernel_rfl) (by kernel_rfl) (by kernel_rfl) (door_met os _)) ?_
 intro W base args ds gs before hval0 hW _ _ hL _;rw [MakeChecks.laidMetH_plain _ _ _ (by kernel_rfl)] at hL;have hT:G.Tabs W:=G.zi8 hL;have hval:∀(j:Nat) t v,Tryz.f3.params[j]?=some t->args[j]?=some v->Value.okWide Tryz.prog W .any base t v:=hval0;have hW':=hW;obtain ⟨p,q,hA0,hV,rfl,hfz,hnd⟩:=hW;have hA:DataW.TrodAll enc Tryz.prog W 0 (fun _=>true) true Tryz.f3.params.toList args.toList ds p:=hA0;rw [Tryz.params3] at hA hval;obtain ⟨v0,vs0,d0,ds0,p0,q0,hargs,rfl,rfl,h0,r0⟩:=trodAll_cons hA;obtain ⟨v1,vs1,d1,ds1,p1,q1,rfl,rfl,rfl,h1,r1⟩:=trodAll_cons r0;obtain ⟨v2,vs2,d2,ds2,p2,q2,rfl,rfl,rfl,h2,r2⟩:=trodAll_cons r1;obtain ⟨v3,vs3,d3,ds3,p3,q3,rfl,rfl,rfl,h3,r3⟩:=trodAll_cons r2;obtain ⟨v4,vs4,d4,ds4,p4,q4,rfl,rfl,rfl,h4,r4⟩:=trodAll_cons r3;obtain ⟨v5,vs5,d5,ds5,p5,q5,rfl,rfl,rfl,h5,r5⟩:=trodAll_cons r4;obtain ⟨rfl,rfl,rfl⟩:=trodAll_nil r5;obtain rfl:args=#[v0,v1,v2,v3,v4,v5]:=by cases args;simp_all
 obtain ⟨rfl,rfl⟩:=trodVars_none hV;have k0:=h0;have lt0:∀x∈p0,x.block<W.heap.size:=by obtain ⟨m,hm⟩:=k0;exact DataW.trod_lt m _ _ _ hm
 have k1:=h1;have lt1:∀x∈p1,x.block<W.heap.size:=by obtain ⟨m,hm⟩:=k1;exact DataW.trod_lt m _ _ _ hm
 have k2:=h2;have lt2:∀x∈p2,x.block<W.heap.size:=by obtain ⟨m,hm⟩:=k2;exact DataW.trod_lt m _ _ _ hm
 have k3:=h3;have lt3:∀x∈p3,x.block<W.heap.size:=by obtain ⟨m,hm⟩:=k3;exact DataW.trod_lt m _ _ _ hm
 have k4:=h4;have lt4:∀x∈p4,x.block<W.heap.size:=by obtain ⟨m,hm⟩:=k4;exact DataW.trod_lt m _ _ _ hm
 have k5:=h5;have lt5:∀x∈p5,x.block<W.heap.size:=by obtain ⟨m,hm⟩:=k5;exact DataW.trod_lt m _ _ _ hm
 obtain ⟨a0,rfl,rfl,rfl,w0⟩:=open_string Tryz.underlying9 (hval 0 9 v0 rfl rfl) h0;obtain ⟨a1,rfl,rfl,rfl,w1⟩:=open_string Tryz.underlying9 (hval 1 9 v1 rfl rfl) h1;obtain ⟨a2,rfl,rfl,rfl,w2⟩:=open_string Tryz.underlying9 (hval 2 9 v2 rfl rfl) h2;obtain ⟨a3,rfl,rfl,rfl,w3⟩:=open_string Tryz.underlying9 (hval 3 9 v3 rfl rfl) h3;obtain ⟨A4,n4,c4,rfl⟩:=okWide_slice Tryz.underlying22 (hval 4 22 v4 rfl rfl);obtain ⟨a4,w4⟩:=Kit.open_arg (G.opVs) h4;obtain ⟨A5,n5,c5,rfl⟩:=okWide_slice Tryz.underlying23 (hval 5 23 v5 rfl rfl);obtain ⟨a5,w5⟩:=Kit.open_arg (G.opNs) h5;clear hA0 hval0;refine (TopLanguageW.walk W a0 w0 a1 w1 a2 w2 a3 w3 A4 n4 c4 a4 w4 A5 n5 c5 a5 w5 hT).mono fun e W' ⟨he,bel⟩=>?_;subst he;exact ⟨_,rfl,_,_,_,[],_,[],hW',trodAll_mk1 (shut_bool Tryz.underlying4 _),(trodAll_cons_mk (Below.trod laidOut (by kernel_rfl) (of_decide_eq_true (by kernel_rfl)) k0 bel lt0) (trodAll_cons_mk (Below.trod laidOut (by kernel_rfl) (of_decide_eq_true (by kernel_rfl)) k1 bel lt1) (trodAll_cons_mk (Below.trod laidOut (by kernel_rfl) (of_decide_eq_true (by kernel_rfl)) k2 bel lt2) (trodAll_cons_mk (Below.trod laidOut (by kernel_rfl) (of_decide_eq_true (by kernel_rfl)) k3 bel lt3) (trodAll_cons_mk (Below.trod laidOut (by kernel_rfl) (of_decide_eq_true (by kernel_rfl)) k4 bel lt4) (trodAll_cons_mk (Below.trod laidOut (by kernel_rfl) (of_decide_eq_true (by kernel_rfl)) k5 bel lt5) trodAll_mk0)))))),rfl,bel.frame _,fun h=>by cases h⟩
theorem over:Rows.topLanguageRow.holds Tryz.pinned (OpenSpec.ofChange Rows.topLanguageSpec) :=
 OpenClaim.holds_of_wide 3 Tryz.f3 rfl rfl rfl rfl rfl rfl rfl ⟨rfl,rfl,rfl,rfl,rfl⟩ rfl rfl rfl rfl rfl TopLanguageJ.fnm Tryz.func3 TopLanguageJ.joined TopLanguageJ.w8 TopLanguageJ.w9
  (fun os started H enc _=>lifted os started H enc)
theorem looked (f:FuncId) (fn:Func) (hf:Tryz.prog.funcNamed Rows.topLanguageRow.func=some f) (hfn:Tryz.prog.funcs[f]?=some fn):true=Tryz.prog.looks []/\∀(j:Nat) t,fn.params[j]?=some t->Tryz.prog.wantsStandIn t=false:=by
 obtain rfl:f=3:=Option.some.inj (TopLanguageJ.fnm.symm.trans hf) |>.symm;obtain rfl:fn=Tryz.f3:=(Option.some.inj (Tryz.func3.symm.trans hfn)).symm;refine ⟨TopLanguageJ.w3,fun j t ht=>?_⟩;rw [Tryz.params3] at ht;have ht2:=List.mem_of_getElem? (show ([9,9,9,9,22,23]:List TypeId)[j]?=some t by simpa using ht);simp only [List.mem_cons,List.mem_nil_iff,or_false] at ht2;rcases ht2 with rfl|rfl|rfl|rfl|rfl|rfl
 .exact TopLanguageJ.w4
 .exact TopLanguageJ.w4
 .exact TopLanguageJ.w4
 .exact TopLanguageJ.w4
 .exact TopLanguageJ.w5
 .exact TopLanguageJ.w6
theorem proved:Rows.TopLanguageCardSaid :=
 Claim7.holds_tied_plain_at .later [] [.data, .data, .data, .sentinel, .sentinel] true (true, "725004583412e9a7547e1f4f6fa1d9eee5b1e72393d923c375259f4f8255e9fa") true
  over (fun _ h=>by cases h) TopLanguageJ.w1 (fun _ h=>by cases h) topLanguage_row_tie rfl ⟨rfl,rfl⟩ TopLanguageJ.w2 rfl looked TopLanguageJ.w7
#print axioms proved
end Go.Proofs.YtbijabmjbgplbaaGreatDoor.TopLanguageP
