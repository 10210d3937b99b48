/- What the proof leans on. No condition. -/
import Derived.Test.YtckdkhhpjnefpaaGreatDoorQ7
import Derived.Test.YtckdkhhpjnefpaaGreatDoorRows
import Derived.JoinedOf
set_option maxHeartbeats 4000000
set_option linter.unusedVariables false
set_option linter.deprecated false
set_option linter.unusedSimpArgs false
set_option linter.unusedSectionVars false
open Bool renaming and_eq_true→E9j
namespace Go.Proofs.YtckdkhhpjnefpaaGreatDoor.upgradeClosed
open Go
theorem cf1:(Rows.upgradeClosedRow.wf (OpenSpec.ofChange Rows.upgradeClosedSpec))=true:=by kernel_rfl
theorem cf2:(laidOutB Tryz.pinned.checked.prog)=true:=by kernel_rfl
theorem cf3:(mapsRowed Tryz.pinned.checked.prog)=true:=by kernel_rfl
theorem cf4:(Tryz.f5.params.all (Tryz.pinned.checked.prog.readableRec ·))=true:=by kernel_rfl
theorem cf5:(namedTie Tryz.pinned.checked.prog Rows.upgradeClosedRow.named Rows.upgradeClosedSpec.vars)=true:=by kernel_rfl
theorem cf6:((Rows.upgradeClosedRow.stops==[]))=true:=by kernel_rfl
theorem cf7:((Tryz.pinned.checked.prog.stops==[]))=true:=by kernel_rfl
theorem cf8:((Rows.upgradeClosedRow.knobs==[]))=true:=by kernel_rfl
theorem cf9:((Tryz.pinned.checked.prog.stopKnobs==[]))=true:=by kernel_rfl
theorem cf10:((Rows.upgradeClosedRow.inPlace==Tryz.pinned.checked.prog.inPlace 5))=true:=by kernel_rfl
theorem cf11:((Rows.upgradeClosedRow.unfollowed==Tryz.pinned.checked.prog.unfollowed 5))=true:=by kernel_rfl
theorem cf12:((Rows.upgradeClosedRow.recurses==Tryz.pinned.checked.prog.recurses 5))=true:=by kernel_rfl
theorem cf13:((Rows.upgradeClosedRow.named==Tryz.pinned.checked.prog.varsNamed 5))=true:=by kernel_rfl
theorem cf14:((Rows.upgradeClosedRow.maps==(Tryz.f5.params.toList++Rows.upgradeClosedSpec.plain.varTypes Tryz.pinned.checked.prog).any (Tryz.pinned.checked.prog.mapsRec ·)))=true:=by kernel_rfl
theorem cf15:((Rows.upgradeClosedRow.ifaces==(Tryz.f5.params.toList++Rows.upgradeClosedSpec.plain.varTypes Tryz.pinned.checked.prog).any (Tryz.pinned.checked.prog.ifacesRec ·)))=true:=by kernel_rfl
theorem cf16:((Rows.upgradeClosedRow.mapsOut==Tryz.pinned.checked.prog.mapsAmong Tryz.f5.resultTypes.toList))=true:=by kernel_rfl
theorem cf17:((Rows.upgradeClosedRow.loops==(Tryz.f5.params.toList++Rows.upgradeClosedSpec.plain.varTypes Tryz.pinned.checked.prog).any (Tryz.pinned.checked.prog.loopsFrom ·)))=true:=by kernel_rfl
theorem cf18:((Rows.upgradeClosedRow.wideKeys==(Tryz.f5.params.toList++Rows.upgradeClosedSpec.plain.varTypes Tryz.pinned.checked.prog++Tryz.f5.resultTypes.toList).any (Tryz.pinned.checked.prog.wideKeysFrom ·)))=true:=by kernel_rfl
theorem cf19:(Rows.upgradeClosedSpec.vars.all (Tryz.pinned.checked.prog.varReadable ·))=true:=by kernel_rfl
theorem cf20:(Tryz.f5.resultTypes.all (fun t=>Tryz.pinned.checked.prog.readableRec t&&decide (t<Tryz.pinned.checked.prog.types.size)))=true:=by kernel_rfl
theorem cf21:((Rows.upgradeClosedRow.ifacesOut==Tryz.f5.resultTypes.toList.any (Tryz.pinned.checked.prog.ifacesRec ·)))=true:=by kernel_rfl
theorem cf22:((Rows.upgradeClosedRow.loopsOut==Tryz.f5.resultTypes.toList.any (Tryz.pinned.checked.prog.loopsFrom ·)))=true:=by kernel_rfl
theorem cf23:((Rows.upgradeClosedRow.plainKeys==Tryz.pinned.checked.prog.plainKeys))=true:=by kernel_rfl
theorem cf24:(Rows.upgradeClosedRow.shortTexts.isNone)=true:=by kernel_rfl
theorem cf25:(Tryz.pinned.checked.prog.stopsHeard)=true:=by kernel_rfl
theorem cf26:(Tryz.pinned.checked.prog.mayEnter)=true:=by kernel_rfl
theorem cf27:((Rows.upgradeClosedRow.lifted==Tryz.pinned.checked.prog.liftsFinal))=true:=by kernel_rfl
theorem cf28:((Tryz.pinned.checked.prog.make==some Rows.upgradeClosedRow.make))=true:=by kernel_rfl
theorem cf29:((Rows.upgradeClosedRow.kinds==(if Rows.upgradeClosedRow.domain.isEmpty then [] else Tryz.f5.params.toList.map fun t=>match Tryz.pinned.checked.prog.underlying t with|some (.int k)=>some k|_=>none)))=true:=by kernel_rfl
theorem cf30:((Rows.upgradeClosedRow.pinned==Rows.upgradeClosedRow.pinnedBy))=true:=by kernel_rfl
theorem cf31:((Rows.upgradeClosedRow.veiled==(Tryz.f5.params.toList++Rows.upgradeClosedSpec.plain.varTypes Tryz.pinned.checked.prog++Tryz.f5.resultTypes.toList).any (Tryz.pinned.checked.prog.veiledRec ·)))=true:=by kernel_rfl
theorem cf32:(Rows.upgradeClosedRow.veiledFits Tryz.pinned.checked.prog Tryz.f5.params.toList (Tryz.f5.params.toList++Rows.upgradeClosedSpec.plain.varTypes Tryz.pinned.checked.prog++Tryz.f5.resultTypes.toList))=true:=by kernel_rfl
theorem D9e{P:Program}{f:FuncId}{fn:Func}{s:ChangeSpec}{c:OpenClaim}(h1:(c.wf (OpenSpec.ofChange s))=true)(h2:(laidOutB P)=true)(h3:(mapsRowed P)=true)(h4:(fn.params.all (P.readableRec ·))=true)(h5:(namedTie P c.named s.vars)=true)(h6:((c.stops==[]))=true)(h7:((P.stops==[]))=true)(h8:((c.knobs==[]))=true)(h9:((P.stopKnobs==[]))=true)(h10:((c.inPlace==P.inPlace f))=true)(h11:((c.unfollowed==P.unfollowed f))=true)(h12:((c.recurses==P.recurses f))=true)(h13:((c.named==P.varsNamed f))=true)(h14:((c.maps==(fn.params.toList++s.plain.varTypes P).any (P.mapsRec ·)))=true)(h15:((c.ifaces==(fn.params.toList++s.plain.varTypes P).any (P.ifacesRec ·)))=true)(h16:((c.mapsOut==P.mapsAmong fn.resultTypes.toList))=true)(h17:((c.loops==(fn.params.toList++s.plain.varTypes P).any (P.loopsFrom ·)))=true)(h18:((c.wideKeys==(fn.params.toList++s.plain.varTypes P++fn.resultTypes.toList).any (P.wideKeysFrom ·)))=true)(h19:(s.vars.all (P.varReadable ·))=true)(h20:(fn.resultTypes.all (fun t=>P.readableRec t&&decide (t<P.types.size)))=true)(h21:((c.ifacesOut==fn.resultTypes.toList.any (P.ifacesRec ·)))=true)(h22:((c.loopsOut==fn.resultTypes.toList.any (P.loopsFrom ·)))=true)(h23:((c.plainKeys==P.plainKeys))=true)(h24:(c.shortTexts.isNone)=true)(h25:(P.stopsHeard)=true)(h26:(P.mayEnter)=true)(h27:((c.lifted==P.liftsFinal))=true)(h28:((P.make==some c.make))=true)(h29:((c.kinds==(if c.domain.isEmpty then [] else fn.params.toList.map fun t=>match P.underlying t with|some (.int k)=>some k|_=>none)))=true)(h30:((c.pinned==c.pinnedBy))=true)(h31:((c.veiled==(fn.params.toList++s.plain.varTypes P++fn.resultTypes.toList).any (P.veiledRec ·)))=true)(h32:(c.veiledFits P fn.params.toList (fn.params.toList++s.plain.varTypes P++fn.resultTypes.toList))=true):joinedFacts P f fn s c=true:=by
 unfold joinedFacts;simp only[E9j];exact⟨⟨⟨⟨⟨⟨⟨⟨⟨⟨⟨⟨⟨⟨⟨⟨⟨⟨⟨⟨⟨⟨⟨⟨⟨⟨⟨⟨⟨⟨⟨h1,h2⟩,h3⟩,h4⟩,h5⟩,h6⟩,h7⟩,h8⟩,h9⟩,h10⟩,h11⟩,h12⟩,h13⟩,h14⟩,h15⟩,h16⟩,h17⟩,h18⟩,h19⟩,h20⟩,h21⟩,h22⟩,h23⟩,h24⟩,h25⟩,h26⟩,h27⟩,h28⟩,h29⟩,h30⟩,h31⟩,h32⟩
theorem closed:joinedFacts Tryz.pinned.checked.prog 5 Tryz.f5 Rows.upgradeClosedSpec Rows.upgradeClosedRow=true:=D9e cf1 cf2 cf3 cf4 cf5 cf6 cf7 cf8 cf9 cf10 cf11 cf12 cf13 cf14 cf15 cf16 cf17 cf18 cf19 cf20 cf21 cf22 cf23 cf24 cf25 cf26 cf27 cf28 cf29 cf30 cf31 cf32
end Go.Proofs.YtckdkhhpjnefpaaGreatDoor.upgradeClosed
