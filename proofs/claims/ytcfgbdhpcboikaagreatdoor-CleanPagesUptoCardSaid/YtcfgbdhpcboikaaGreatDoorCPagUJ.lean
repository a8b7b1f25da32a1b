/-
CleanPages: the closed facts on the program, each by itself (together they outgrow a Lean process).
-/
import Derived.Test.YtcfgbdhpcboikaaGreatDoorAa
import Derived.Test.YtcfgbdhpcboikaaGreatDoorRows
import Derived.JoinedOf
namespace Go.Proofs.YtcfgbdhpcboikaaGreatDoor.cleanPagesUpto
set_option maxRecDepth 100000
theorem j0:(Rows.cleanPagesUptoRow.wf (OpenSpec.ofChange (Rows.OpenSpec.upto Rows.cleanPagesSpec).bare))=true:=by kernel_rfl
theorem j1:(laidOutB Tryz.pinned.checked.prog)=true:=by kernel_rfl
theorem j2:(mapsRowed Tryz.pinned.checked.prog)=true:=by kernel_rfl
theorem j3:(Tryz.f16.params.all (Tryz.pinned.checked.prog.readableRec ·))=true:=by kernel_rfl
theorem j4:(namedTie Tryz.pinned.checked.prog Rows.cleanPagesUptoRow.named (Rows.OpenSpec.upto Rows.cleanPagesSpec).bare.vars)=true:=by kernel_rfl
theorem j5:(Rows.cleanPagesUptoRow.stops==[])=true:=by kernel_rfl
theorem j6:(Tryz.pinned.checked.prog.stops==[])=true:=by kernel_rfl
theorem j7:(Rows.cleanPagesUptoRow.knobs==[])=true:=by kernel_rfl
theorem j8:(Tryz.pinned.checked.prog.stopKnobs==[])=true:=by kernel_rfl
theorem j9:(Rows.cleanPagesUptoRow.inPlace==Tryz.pinned.checked.prog.inPlace 16)=true:=by kernel_rfl
theorem j10:(Rows.cleanPagesUptoRow.unfollowed==Tryz.pinned.checked.prog.unfollowed 16)=true:=by kernel_rfl
theorem j11:(Rows.cleanPagesUptoRow.recurses==Tryz.pinned.checked.prog.recurses 16)=true:=by kernel_rfl
theorem j12:(Rows.cleanPagesUptoRow.named==Tryz.pinned.checked.prog.varsNamed 16)=true:=by kernel_rfl
theorem j13:(Rows.cleanPagesUptoRow.maps==(Tryz.f16.params.toList++(Rows.OpenSpec.upto Rows.cleanPagesSpec).bare.plain.varTypes Tryz.pinned.checked.prog).any (Tryz.pinned.checked.prog.mapsRec ·))=true:=by kernel_rfl
theorem j14:(Rows.cleanPagesUptoRow.ifaces==(Tryz.f16.params.toList++(Rows.OpenSpec.upto Rows.cleanPagesSpec).bare.plain.varTypes Tryz.pinned.checked.prog).any (Tryz.pinned.checked.prog.ifacesRec ·))=true:=by kernel_rfl
theorem j15:(Rows.cleanPagesUptoRow.mapsOut==Tryz.pinned.checked.prog.mapsAmong Tryz.f16.resultTypes.toList)=true:=by kernel_rfl
theorem j16:(Rows.cleanPagesUptoRow.loops==(Tryz.f16.params.toList++(Rows.OpenSpec.upto Rows.cleanPagesSpec).bare.plain.varTypes Tryz.pinned.checked.prog).any (Tryz.pinned.checked.prog.loopsFrom ·))=true:=by kernel_rfl
theorem j17:(Rows.cleanPagesUptoRow.wideKeys==(Tryz.f16.params.toList++(Rows.OpenSpec.upto Rows.cleanPagesSpec).bare.plain.varTypes Tryz.pinned.checked.prog++Tryz.f16.resultTypes.toList).any (Tryz.pinned.checked.prog.wideKeysFrom ·))=true:=by kernel_rfl
theorem j18:((Rows.OpenSpec.upto Rows.cleanPagesSpec).bare.vars.all (Tryz.pinned.checked.prog.varReadable ·))=true:=by kernel_rfl
theorem j19:(Tryz.f16.resultTypes.all (fun t=>Tryz.pinned.checked.prog.readableRec t&&decide (t<Tryz.pinned.checked.prog.types.size)))=true:=by kernel_rfl
theorem j20:(Rows.cleanPagesUptoRow.ifacesOut==Tryz.f16.resultTypes.toList.any (Tryz.pinned.checked.prog.ifacesRec ·))=true:=by kernel_rfl
theorem j21:(Rows.cleanPagesUptoRow.loopsOut==Tryz.f16.resultTypes.toList.any (Tryz.pinned.checked.prog.loopsFrom ·))=true:=by kernel_rfl
theorem j22:(Rows.cleanPagesUptoRow.plainKeys==Tryz.pinned.checked.prog.plainKeys)=true:=by kernel_rfl
theorem j23:(Rows.cleanPagesUptoRow.shortTexts.isNone)=true:=by kernel_rfl
theorem j24:(Tryz.pinned.checked.prog.stopsHeard)=true:=by kernel_rfl
theorem j25:(Tryz.pinned.checked.prog.mayEnter)=true:=by kernel_rfl
theorem j26:(Rows.cleanPagesUptoRow.lifted==Tryz.pinned.checked.prog.liftsFinal)=true:=by kernel_rfl
theorem j27:(Tryz.pinned.checked.prog.make==some Rows.cleanPagesUptoRow.make)=true:=by kernel_rfl
theorem j28:(Rows.cleanPagesUptoRow.kinds==(if Rows.cleanPagesUptoRow.domain.isEmpty then []else Tryz.f16.params.toList.map fun t=>match Tryz.pinned.checked.prog.underlying t with|some (.int k)=>some k|_=>none))=true:=by kernel_rfl
theorem j29:(Rows.cleanPagesUptoRow.pinned==Rows.cleanPagesUptoRow.pinnedBy)=true:=by kernel_rfl
theorem j30:(Rows.cleanPagesUptoRow.veiled==(Tryz.f16.params.toList++(Rows.OpenSpec.upto Rows.cleanPagesSpec).bare.plain.varTypes Tryz.pinned.checked.prog++Tryz.f16.resultTypes.toList).any (Tryz.pinned.checked.prog.veiledRec ·))=true:=by kernel_rfl
theorem j31:(Rows.cleanPagesUptoRow.veiledFits Tryz.pinned.checked.prog Tryz.f16.params.toList (Tryz.f16.params.toList++(Rows.OpenSpec.upto Rows.cleanPagesSpec).bare.plain.varTypes Tryz.pinned.checked.prog++Tryz.f16.resultTypes.toList))=true:=by kernel_rfl
theorem joined:joinedFacts Tryz.pinned.checked.prog 16 Tryz.f16 (Rows.OpenSpec.upto Rows.cleanPagesSpec).bare Rows.cleanPagesUptoRow=true:=by
 unfold joinedFacts;simp only[bt];refine⟨?_,j31⟩;refine⟨?_,j30⟩;refine⟨?_,j29⟩;refine⟨?_,j28⟩;refine⟨?_,j27⟩;refine⟨?_,j26⟩;refine⟨?_,j25⟩;refine⟨?_,j24⟩;refine⟨?_,j23⟩;refine⟨?_,j22⟩;refine⟨?_,j21⟩;refine⟨?_,j20⟩;refine⟨?_,j19⟩;refine⟨?_,j18⟩;refine⟨?_,j17⟩;refine⟨?_,j16⟩;refine⟨?_,j15⟩;refine⟨?_,j14⟩;refine⟨?_,j13⟩;refine⟨?_,j12⟩;refine⟨?_,j11⟩;refine⟨?_,j10⟩;refine⟨?_,j9⟩;refine⟨?_,j8⟩;refine⟨?_,j7⟩;refine⟨?_,j6⟩;refine⟨?_,j5⟩;refine⟨?_,j4⟩;refine⟨?_,j3⟩;refine⟨?_,j2⟩;refine⟨?_,j1⟩;exact j0
end Go.Proofs.YtcfgbdhpcboikaaGreatDoor.cleanPagesUpto
