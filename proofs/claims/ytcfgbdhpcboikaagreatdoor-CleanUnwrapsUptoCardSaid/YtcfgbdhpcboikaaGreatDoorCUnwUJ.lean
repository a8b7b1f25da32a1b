/-
  CleanUnwraps: the closed facts on the program, each by itself (together they outgrow a Lean process).
-/
import Derived.Test.YtcfgbdhpcboikaaGreatDoorChecked
import Derived.Test.YtcfgbdhpcboikaaGreatDoorRows
import Derived.JoinedOf
namespace Go.Proofs.YtcfgbdhpcboikaaGreatDoor.cleanUnwrapsUpto
set_option maxRecDepth 100000
theorem j0:(Rows.cleanUnwrapsUptoRow.wf (OpenSpec.ofChange (Rows.OpenSpec.upto Rows.cleanUnwrapsSpec).bare))=true:=by kernel_rfl
theorem j1:(laidOutB Tryz.pinned.checked.prog)=true:=by kernel_rfl
theorem j2:(mapsRowed Tryz.pinned.checked.prog)=true:=by kernel_rfl
theorem j3:(Tryz.f13.params.all (Tryz.pinned.checked.prog.readableRec ·))=true:=by kernel_rfl
theorem j4:(namedTie Tryz.pinned.checked.prog Rows.cleanUnwrapsUptoRow.named (Rows.OpenSpec.upto Rows.cleanUnwrapsSpec).bare.vars)=true:=by kernel_rfl
theorem j5:(Rows.cleanUnwrapsUptoRow.stops==[])=true:=by kernel_rfl
theorem j6:(Tryz.pinned.checked.prog.stops==[])=true:=by kernel_rfl
theorem j7:(Rows.cleanUnwrapsUptoRow.knobs==[])=true:=by kernel_rfl
theorem j8:(Tryz.pinned.checked.prog.stopKnobs==[])=true:=by kernel_rfl
theorem j9:(Rows.cleanUnwrapsUptoRow.inPlace==Tryz.pinned.checked.prog.inPlace 13)=true:=by kernel_rfl
theorem j10:(Rows.cleanUnwrapsUptoRow.unfollowed==Tryz.pinned.checked.prog.unfollowed 13)=true:=by kernel_rfl
theorem j11:(Rows.cleanUnwrapsUptoRow.recurses==Tryz.pinned.checked.prog.recurses 13)=true:=by kernel_rfl
theorem j12:(Rows.cleanUnwrapsUptoRow.named==Tryz.pinned.checked.prog.varsNamed 13)=true:=by kernel_rfl
theorem j13:(Rows.cleanUnwrapsUptoRow.maps==(Tryz.f13.params.toList++(Rows.OpenSpec.upto Rows.cleanUnwrapsSpec).bare.plain.varTypes Tryz.pinned.checked.prog).any (Tryz.pinned.checked.prog.mapsRec ·))=true:=by kernel_rfl
theorem j14:(Rows.cleanUnwrapsUptoRow.ifaces==(Tryz.f13.params.toList++(Rows.OpenSpec.upto Rows.cleanUnwrapsSpec).bare.plain.varTypes Tryz.pinned.checked.prog).any (Tryz.pinned.checked.prog.ifacesRec ·))=true:=by kernel_rfl
theorem j15:(Rows.cleanUnwrapsUptoRow.mapsOut==Tryz.pinned.checked.prog.mapsAmong Tryz.f13.resultTypes.toList)=true:=by kernel_rfl
theorem j16:(Rows.cleanUnwrapsUptoRow.loops==(Tryz.f13.params.toList++(Rows.OpenSpec.upto Rows.cleanUnwrapsSpec).bare.plain.varTypes Tryz.pinned.checked.prog).any (Tryz.pinned.checked.prog.loopsFrom ·))=true:=by kernel_rfl
theorem j17:(Rows.cleanUnwrapsUptoRow.wideKeys==(Tryz.f13.params.toList++(Rows.OpenSpec.upto Rows.cleanUnwrapsSpec).bare.plain.varTypes Tryz.pinned.checked.prog++Tryz.f13.resultTypes.toList).any (Tryz.pinned.checked.prog.wideKeysFrom ·))=true:=by kernel_rfl
theorem j18:((Rows.OpenSpec.upto Rows.cleanUnwrapsSpec).bare.vars.all (Tryz.pinned.checked.prog.varReadable ·))=true:=by kernel_rfl
theorem j19:(Tryz.f13.resultTypes.all (fun t=>Tryz.pinned.checked.prog.readableRec t&&decide (t<Tryz.pinned.checked.prog.types.size)))=true:=by kernel_rfl
theorem j20:(Rows.cleanUnwrapsUptoRow.ifacesOut==Tryz.f13.resultTypes.toList.any (Tryz.pinned.checked.prog.ifacesRec ·))=true:=by kernel_rfl
theorem j21:(Rows.cleanUnwrapsUptoRow.loopsOut==Tryz.f13.resultTypes.toList.any (Tryz.pinned.checked.prog.loopsFrom ·))=true:=by kernel_rfl
theorem j22:(Rows.cleanUnwrapsUptoRow.plainKeys==Tryz.pinned.checked.prog.plainKeys)=true:=by kernel_rfl
theorem j23:(Rows.cleanUnwrapsUptoRow.shortTexts.isNone)=true:=by kernel_rfl
theorem j24:(Tryz.pinned.checked.prog.stopsHeard)=true:=by kernel_rfl
theorem j25:(Tryz.pinned.checked.prog.mayEnter)=true:=by kernel_rfl
theorem j26:(Rows.cleanUnwrapsUptoRow.lifted==Tryz.pinned.checked.prog.liftsFinal)=true:=by kernel_rfl
theorem j27:(Tryz.pinned.checked.prog.make==some Rows.cleanUnwrapsUptoRow.make)=true:=by kernel_rfl
theorem j28:(Rows.cleanUnwrapsUptoRow.kinds==(if Rows.cleanUnwrapsUptoRow.domain.isEmpty then [] else Tryz.f13.params.toList.map fun t=>match Tryz.pinned.checked.prog.underlying t with|some (.int k)=>some k|_=>none))=true:=by kernel_rfl
theorem j29:(Rows.cleanUnwrapsUptoRow.pinned==Rows.cleanUnwrapsUptoRow.pinnedBy)=true:=by kernel_rfl
theorem j30:(Rows.cleanUnwrapsUptoRow.veiled==(Tryz.f13.params.toList++(Rows.OpenSpec.upto Rows.cleanUnwrapsSpec).bare.plain.varTypes Tryz.pinned.checked.prog++Tryz.f13.resultTypes.toList).any (Tryz.pinned.checked.prog.veiledRec ·))=true:=by kernel_rfl
theorem j31:(Rows.cleanUnwrapsUptoRow.veiledFits Tryz.pinned.checked.prog Tryz.f13.params.toList (Tryz.f13.params.toList++(Rows.OpenSpec.upto Rows.cleanUnwrapsSpec).bare.plain.varTypes Tryz.pinned.checked.prog++Tryz.f13.resultTypes.toList))=true:=by kernel_rfl
theorem joined:joinedFacts Tryz.pinned.checked.prog 13 Tryz.f13 (Rows.OpenSpec.upto Rows.cleanUnwrapsSpec).bare Rows.cleanUnwrapsUptoRow=true:=by
 unfold joinedFacts
 simp only[Bool.and_eq_true]
 refine⟨?_,j31⟩
 refine⟨?_,j30⟩
 refine⟨?_,j29⟩
 refine⟨?_,j28⟩
 refine⟨?_,j27⟩
 refine⟨?_,j26⟩
 refine⟨?_,j25⟩
 refine⟨?_,j24⟩
 refine⟨?_,j23⟩
 refine⟨?_,j22⟩
 refine⟨?_,j21⟩
 refine⟨?_,j20⟩
 refine⟨?_,j19⟩
 refine⟨?_,j18⟩
 refine⟨?_,j17⟩
 refine⟨?_,j16⟩
 refine⟨?_,j15⟩
 refine⟨?_,j14⟩
 refine⟨?_,j13⟩
 refine⟨?_,j12⟩
 refine⟨?_,j11⟩
 refine⟨?_,j10⟩
 refine⟨?_,j9⟩
 refine⟨?_,j8⟩
 refine⟨?_,j7⟩
 refine⟨?_,j6⟩
 refine⟨?_,j5⟩
 refine⟨?_,j4⟩
 refine⟨?_,j3⟩
 refine⟨?_,j2⟩
 refine⟨?_,j1⟩
 exact j0
end Go.Proofs.YtcfgbdhpcboikaaGreatDoor.cleanUnwrapsUpto
