/- A part of TopHonest. -/
import Derived.JoinedOf
import Derived.ProofKit
import Derived.SevenTiedAt
import Derived.Test.YtlddafbgfkocjaaGreatDoorRows
import Derived.Test.YtlddafbgfkocjaaGreatDoorTie
set_option linter.all false
set_option maxRecDepth 1000000
set_option maxHeartbeats 400000000
namespace Go.Proofs.YtlddafbgfkocjaaGreatDoor.topHonestLaw
open Go.ChangeShapes Go.WideShapes Go.ChangeAt Go.RowKit
theorem k0:(Rows.topHonestRow.wf (OpenSpec.ofChange Rows.topHonestSpec))=true:=by kernel_rfl
theorem k1:(laidOutB Tryz.prog)=true:=by kernel_rfl
theorem k2:(mapsRowed Tryz.prog)=true:=by kernel_rfl
theorem k3:(Tryz.f3.params.all (Tryz.prog.readableRec ·))=true:=by kernel_rfl
theorem k4:(namedTie Tryz.prog Rows.topHonestRow.named Rows.topHonestSpec.vars)=true:=by kernel_rfl
theorem k5:(Rows.topHonestRow.stops==[])=true:=by kernel_rfl
theorem k6:(Tryz.prog.stops==[])=true:=by kernel_rfl
theorem k7:(Rows.topHonestRow.knobs==[])=true:=by kernel_rfl
theorem k8:(Tryz.prog.stopKnobs==[])=true:=by kernel_rfl
theorem k9:(Rows.topHonestRow.inPlace==Tryz.prog.inPlace 3)=true:=by kernel_rfl
theorem k10:(Rows.topHonestRow.unfollowed==Tryz.prog.unfollowed 3)=true:=by kernel_rfl
theorem k11:(Rows.topHonestRow.recurses==Tryz.prog.recurses 3)=true:=by kernel_rfl
theorem k12:(Rows.topHonestRow.named==Tryz.prog.varsNamed 3)=true:=by kernel_rfl
theorem k13:(Rows.topHonestRow.maps==(Tryz.f3.params.toList++Rows.topHonestSpec.plain.varTypes Tryz.prog).any (Tryz.prog.mapsRec ·))=true:=by kernel_rfl
theorem k14:(Rows.topHonestRow.ifaces==(Tryz.f3.params.toList++Rows.topHonestSpec.plain.varTypes Tryz.prog).any (Tryz.prog.ifacesRec ·))=true:=by kernel_rfl
theorem k15:(Rows.topHonestRow.mapsOut==Tryz.prog.mapsAmong Tryz.f3.resultTypes.toList)=true:=by kernel_rfl
theorem k16:(Rows.topHonestRow.loops==(Tryz.f3.params.toList++Rows.topHonestSpec.plain.varTypes Tryz.prog).any (Tryz.prog.loopsFrom ·))=true:=by kernel_rfl
theorem k17:(Rows.topHonestRow.wideKeys==(Tryz.f3.params.toList++Rows.topHonestSpec.plain.varTypes Tryz.prog++Tryz.f3.resultTypes.toList).any (Tryz.prog.wideKeysFrom ·))=true:=by kernel_rfl
theorem k18:(Rows.topHonestSpec.vars.all (Tryz.prog.varReadable ·))=true:=by kernel_rfl
theorem k19:(Tryz.f3.resultTypes.all (fun t=>Tryz.prog.readableRec t&&decide (t<Tryz.prog.types.size)))=true:=by kernel_rfl
theorem k20:(Rows.topHonestRow.ifacesOut==Tryz.f3.resultTypes.toList.any (Tryz.prog.ifacesRec ·))=true:=by kernel_rfl
theorem k21:(Rows.topHonestRow.loopsOut==Tryz.f3.resultTypes.toList.any (Tryz.prog.loopsFrom ·))=true:=by kernel_rfl
theorem k22:(Rows.topHonestRow.plainKeys==Tryz.prog.plainKeys)=true:=by kernel_rfl
theorem k23:(Rows.topHonestRow.shortTexts.isNone)=true:=by kernel_rfl
theorem k24:(Tryz.prog.stopsHeard)=true:=by kernel_rfl
theorem k25:(Tryz.prog.mayEnter)=true:=by kernel_rfl
theorem k26:(Rows.topHonestRow.lifted==Tryz.prog.liftsFinal)=true:=by kernel_rfl
theorem k27:(Tryz.prog.make==some Rows.topHonestRow.make)=true:=by kernel_rfl
theorem k28:(Rows.topHonestRow.kinds==(if Rows.topHonestRow.domain.isEmpty then[]else Tryz.f3.params.toList.map fun t=>match Tryz.prog.underlying t with|some (.int k)=>some k|_=>none))=true:=by kernel_rfl
theorem k29:(Rows.topHonestRow.pinned==Rows.topHonestRow.pinnedBy)=true:=by kernel_rfl
theorem k30:(Rows.topHonestRow.veiled==(Tryz.f3.params.toList++Rows.topHonestSpec.plain.varTypes Tryz.prog++Tryz.f3.resultTypes.toList).any (Tryz.prog.veiledRec ·))=true:=by kernel_rfl
theorem k31:(Rows.topHonestRow.veiledFits Tryz.prog Tryz.f3.params.toList (Tryz.f3.params.toList++Rows.topHonestSpec.plain.varTypes Tryz.prog++Tryz.f3.resultTypes.toList))=true:=by kernel_rfl
theorem closed:joinedFacts Tryz.prog 3 Tryz.f3 Rows.topHonestSpec Rows.topHonestRow=true:=by simp only[joinedFacts,Bool.and_eq_true];exact⟨⟨⟨⟨⟨⟨⟨⟨⟨⟨⟨⟨⟨⟨⟨⟨⟨⟨⟨⟨⟨⟨⟨⟨⟨⟨⟨⟨⟨⟨⟨k0,k1⟩,k2⟩,k3⟩,k4⟩,k5⟩,k6⟩,k7⟩,k8⟩,k9⟩,k10⟩,k11⟩,k12⟩,k13⟩,k14⟩,k15⟩,k16⟩,k17⟩,k18⟩,k19⟩,k20⟩,k21⟩,k22⟩,k23⟩,k24⟩,k25⟩,k26⟩,k27⟩,k28⟩,k29⟩,k30⟩,k31⟩
theorem named:Tryz.prog.funcNamed "twinspan/twinspantop.TopHonest" =some 3:=by kernel_rfl
theorem inst:Tryz.f3.isInstance Tryz.prog Rows.topHonestRow.origin Rows.topHonestRow.targs:=of_decide_eq_true (by kernel_rfl)
theorem wrapper:Tryz.f3.isWrapper Tryz.prog Rows.topHonestRow.wrapper Rows.topHonestRow.mainSum:=by unfold Func.isWrapper;first|(rw[if_pos (by decide+kernel)];kernel_rfl)|(rw[if_neg (by decide+kernel)];exact⟨rfl,rfl⟩)
theorem asD:Rows.topHonestRow.wfByText (OpenSpec.ofChange Rows.topHonestSpec)=true:=by kernel_rfl
theorem mainIs:Tryz.prog.mainIs=some (true,"fd0344e6ccc51edae4efb6e7321fd9ce834f82c9ca1a0836f63434ce26927967".toList):=by kernel_rfl
theorem looks:false=Tryz.prog.looks []:=by kernel_rfl
theorem avB:([22].all fun u=>!Tryz.prog.wantsStandIn u)=true:=by kernel_rfl
theorem goes:false=Rows.topHonestRow.goesBy Tryz.prog:=by kernel_rfl
end Go.Proofs.YtlddafbgfkocjaaGreatDoor.topHonestLaw
