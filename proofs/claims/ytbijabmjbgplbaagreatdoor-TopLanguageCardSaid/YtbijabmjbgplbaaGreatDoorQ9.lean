import Derived.Test.YtbijabmjbgplbaaGreatDoorTie
import Derived.Test.YtbijabmjbgplbaaGreatDoorCards
import Derived.JoinedOf
import Derived.SevenTiedAt
import Derived.KernelRfl
set_option linter.unusedVariables false
set_option linter.unusedSimpArgs false
namespace Go.Proofs.YtbijabmjbgplbaaGreatDoor
namespace TopLanguageJ
set_option maxRecDepth 100000
theorem wf:Rows.topLanguageRow.wf (OpenSpec.ofChange Rows.topLanguageSpec)=true:=by kernel_rfl
theorem lo:laidOutB Tryz.prog=true:=by kernel_rfl
theorem mr:mapsRowed Tryz.prog=true:=by kernel_rfl
theorem pr:Tryz.f3.params.all (Tryz.prog.readableRec ·)=true:=by kernel_rfl
theorem nt:namedTie Tryz.prog Rows.topLanguageRow.named Rows.topLanguageSpec.vars=true:=by kernel_rfl
theorem st:(Tryz.prog.stops==[])=true:=by kernel_rfl
theorem sk:(Tryz.prog.stopKnobs==[])=true:=by kernel_rfl
theorem ip:(Rows.topLanguageRow.inPlace==Tryz.prog.inPlace 3)=true:=by kernel_rfl
theorem uf:(Rows.topLanguageRow.unfollowed==Tryz.prog.unfollowed 3)=true:=by kernel_rfl
theorem rc:(Rows.topLanguageRow.recurses==Tryz.prog.recurses 3)=true:=by kernel_rfl
theorem nm:(Rows.topLanguageRow.named==Tryz.prog.varsNamed 3)=true:=by kernel_rfl
theorem mp:(Rows.topLanguageRow.maps==(Tryz.f3.params.toList++Rows.topLanguageSpec.plain.varTypes Tryz.prog).any (Tryz.prog.mapsRec ·))=true:=by kernel_rfl
theorem ifc:(Rows.topLanguageRow.ifaces==(Tryz.f3.params.toList++Rows.topLanguageSpec.plain.varTypes Tryz.prog).any (Tryz.prog.ifacesRec ·))=true:=by kernel_rfl
theorem mo:(Rows.topLanguageRow.mapsOut==Tryz.prog.mapsAmong Tryz.f3.resultTypes.toList)=true:=by kernel_rfl
theorem lp:(Rows.topLanguageRow.loops==(Tryz.f3.params.toList++Rows.topLanguageSpec.plain.varTypes Tryz.prog).any (Tryz.prog.loopsFrom ·))=true:=by kernel_rfl
theorem wk:(Rows.topLanguageRow.wideKeys==(Tryz.f3.params.toList++Rows.topLanguageSpec.plain.varTypes Tryz.prog++Tryz.f3.resultTypes.toList).any (Tryz.prog.wideKeysFrom ·))=true:=by kernel_rfl
theorem rt:Tryz.f3.resultTypes.all (fun t=>Tryz.prog.readableRec t&&decide (t<Tryz.prog.types.size))=true:=by kernel_rfl
theorem io:(Rows.topLanguageRow.ifacesOut==Tryz.f3.resultTypes.toList.any (Tryz.prog.ifacesRec ·))=true:=by kernel_rfl
theorem lq:(Rows.topLanguageRow.loopsOut==Tryz.f3.resultTypes.toList.any (Tryz.prog.loopsFrom ·))=true:=by kernel_rfl
theorem pk:(Rows.topLanguageRow.plainKeys==Tryz.prog.plainKeys)=true:=by kernel_rfl
theorem sh:Tryz.prog.stopsHeard=true:=by kernel_rfl
theorem me:Tryz.prog.mayEnter=true:=by kernel_rfl
theorem li:(Rows.topLanguageRow.lifted==Tryz.prog.liftsFinal)=true:=by kernel_rfl
theorem mk:(Tryz.prog.make==some Rows.topLanguageRow.make)=true:=by kernel_rfl
theorem kd:(Rows.topLanguageRow.kinds==(if Rows.topLanguageRow.domain.isEmpty then [] else Tryz.f3.params.toList.map fun t=>match Tryz.prog.underlying t with|some (.int k)=>some k|_=>none))=true:=by kernel_rfl
theorem pb:(Rows.topLanguageRow.pinned==Rows.topLanguageRow.pinnedBy)=true:=by kernel_rfl
theorem ve:(Rows.topLanguageRow.veiled==(Tryz.f3.params.toList++Rows.topLanguageSpec.plain.varTypes Tryz.prog++Tryz.f3.resultTypes.toList).any (Tryz.prog.veiledRec ·))=true:=by kernel_rfl
theorem vf:Rows.topLanguageRow.veiledFits Tryz.prog Tryz.f3.params.toList (Tryz.f3.params.toList++Rows.topLanguageSpec.plain.varTypes Tryz.prog++Tryz.f3.resultTypes.toList)=true:=by kernel_rfl
theorem fnm:Tryz.prog.funcNamed Rows.topLanguageRow.func=some 3:=by kernel_rfl
theorem e1:(Rows.topLanguageRow.stops==[])=true:=by kernel_rfl
theorem e2:(Rows.topLanguageRow.knobs==[])=true:=by kernel_rfl
theorem e3:Rows.topLanguageSpec.vars.all (Tryz.prog.varReadable ·)=true:=by kernel_rfl
theorem e4:Rows.topLanguageRow.shortTexts.isNone=true:=by kernel_rfl
theorem joined:joinedFacts Tryz.prog 3 Tryz.f3 Rows.topLanguageSpec Rows.topLanguageRow=true:=by
 simp only [joinedFacts,Bool.and_eq_true];exact ⟨⟨⟨⟨⟨⟨⟨⟨⟨⟨⟨⟨⟨⟨⟨⟨⟨⟨⟨⟨⟨⟨⟨⟨⟨⟨⟨⟨⟨⟨⟨wf,lo⟩,mr⟩,pr⟩,nt⟩,e1⟩,st⟩,e2⟩,sk⟩,ip⟩,uf⟩,rc⟩,nm⟩,mp⟩,ifc⟩,mo⟩,lp⟩,wk⟩,e3⟩,rt⟩,io⟩,lq⟩,pk⟩,e4⟩,sh⟩,me⟩,li⟩,mk⟩,kd⟩,pb⟩,ve⟩,vf⟩
theorem w1:Rows.topLanguageRow.wfByText (OpenSpec.ofChange Rows.topLanguageSpec)=true:=by kernel_rfl
theorem w2 : Tryz.prog.mainIs = some (true, "725004583412e9a7547e1f4f6fa1d9eee5b1e72393d923c375259f4f8255e9fa".toList) := by kernel_rfl
theorem w3:true=Tryz.prog.looks []:=by kernel_rfl
theorem w4:Tryz.prog.wantsStandIn 9=false:=by kernel_rfl
theorem w5:Tryz.prog.wantsStandIn 22=false:=by kernel_rfl
theorem w6:Tryz.prog.wantsStandIn 23=false:=by kernel_rfl
theorem w7:false=Rows.topLanguageRow.goesBy Tryz.prog:=by kernel_rfl
theorem w8:Tryz.f3.isInstance Tryz.prog Rows.topLanguageRow.origin Rows.topLanguageRow.targs:=(of_decide_eq_true (by kernel_rfl))
theorem w9:Tryz.f3.isWrapper Tryz.prog Rows.topLanguageRow.wrapper Rows.topLanguageRow.mainSum:=(by unfold Func.isWrapper;first|(rw [if_pos (by decide +kernel)];kernel_rfl)|(rw [if_neg (by decide +kernel)];exact ⟨rfl,rfl⟩))
end TopLanguageJ
end Go.Proofs.YtbijabmjbgplbaaGreatDoor
