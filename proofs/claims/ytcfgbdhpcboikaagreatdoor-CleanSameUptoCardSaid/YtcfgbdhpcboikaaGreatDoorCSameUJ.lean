/-
CleanSame: the closed facts on the program, each by itself (together they outgrow a Lean process).
-/
import Derived.Test.YtcfgbdhpcboikaaGreatDoorRows
import Derived.JoinedOf
namespace Go.Proofs.YtcfgbdhpcboikaaGreatDoor.cleanSameUpto
set_option maxRecDepth 100000
theorem j0:(Rows.cleanSameUptoRow.wf (OpenSpec.ofChange (Rows.OpenSpec.upto Rows.cleanSameSpec).bare))=true:=by kernel_rfl
theorem j1:(laidOutB Tryz.pinned.checked.prog)=true:=by kernel_rfl
theorem j2:(mapsRowed Tryz.pinned.checked.prog)=true:=by kernel_rfl
theorem j3:(Tryz.f18.params.all (Tryz.pinned.checked.prog.readableRec ·))=true:=by kernel_rfl
theorem j4:(namedTie Tryz.pinned.checked.prog Rows.cleanSameUptoRow.named (Rows.OpenSpec.upto Rows.cleanSameSpec).bare.vars)=true:=by kernel_rfl
theorem j5:(Rows.cleanSameUptoRow.stops==[])=true:=by kernel_rfl
theorem j6:(Tryz.pinned.checked.prog.stops==[])=true:=by kernel_rfl
theorem j7:(Rows.cleanSameUptoRow.knobs==[])=true:=by kernel_rfl
theorem j8:(Tryz.pinned.checked.prog.stopKnobs==[])=true:=by kernel_rfl
theorem j9:(Rows.cleanSameUptoRow.inPlace==Tryz.pinned.checked.prog.inPlace 18)=true:=by kernel_rfl
theorem j10:(Rows.cleanSameUptoRow.unfollowed==Tryz.pinned.checked.prog.unfollowed 18)=true:=by kernel_rfl
theorem j11:(Rows.cleanSameUptoRow.recurses==Tryz.pinned.checked.prog.recurses 18)=true:=by kernel_rfl
theorem j12:(Rows.cleanSameUptoRow.named==Tryz.pinned.checked.prog.varsNamed 18)=true:=by kernel_rfl
theorem j13:(Rows.cleanSameUptoRow.maps==(Tryz.f18.params.toList++(Rows.OpenSpec.upto Rows.cleanSameSpec).bare.plain.varTypes Tryz.pinned.checked.prog).any (Tryz.pinned.checked.prog.mapsRec ·))=true:=by kernel_rfl
theorem j14:(Rows.cleanSameUptoRow.ifaces==(Tryz.f18.params.toList++(Rows.OpenSpec.upto Rows.cleanSameSpec).bare.plain.varTypes Tryz.pinned.checked.prog).any (Tryz.pinned.checked.prog.ifacesRec ·))=true:=by kernel_rfl
theorem j15:(Rows.cleanSameUptoRow.mapsOut==Tryz.pinned.checked.prog.mapsAmong Tryz.f18.resultTypes.toList)=true:=by kernel_rfl
theorem j16:(Rows.cleanSameUptoRow.loops==(Tryz.f18.params.toList++(Rows.OpenSpec.upto Rows.cleanSameSpec).bare.plain.varTypes Tryz.pinned.checked.prog).any (Tryz.pinned.checked.prog.loopsFrom ·))=true:=by kernel_rfl
theorem j17:(Rows.cleanSameUptoRow.wideKeys==(Tryz.f18.params.toList++(Rows.OpenSpec.upto Rows.cleanSameSpec).bare.plain.varTypes Tryz.pinned.checked.prog++Tryz.f18.resultTypes.toList).any (Tryz.pinned.checked.prog.wideKeysFrom ·))=true:=by kernel_rfl
theorem j18:((Rows.OpenSpec.upto Rows.cleanSameSpec).bare.vars.all (Tryz.pinned.checked.prog.varReadable ·))=true:=by kernel_rfl
theorem j19:(Tryz.f18.resultTypes.all (fun t=>Tryz.pinned.checked.prog.readableRec t&&decide (t<Tryz.pinned.checked.prog.types.size)))=true:=by kernel_rfl
theorem j20:(Rows.cleanSameUptoRow.ifacesOut==Tryz.f18.resultTypes.toList.any (Tryz.pinned.checked.prog.ifacesRec ·))=true:=by kernel_rfl
theorem j21:(Rows.cleanSameUptoRow.loopsOut==Tryz.f18.resultTypes.toList.any (Tryz.pinned.checked.prog.loopsFrom ·))=true:=by kernel_rfl
theorem j22:(Rows.cleanSameUptoRow.plainKeys==Tryz.pinned.checked.prog.plainKeys)=true:=by kernel_rfl
theorem j23:(Rows.cleanSameUptoRow.shortTexts.isNone)=true:=by kernel_rfl
theorem j24:(Tryz.pinned.checked.prog.stopsHeard)=true:=by kernel_rfl
theorem j25:(Tryz.pinned.checked.prog.mayEnter)=true:=by kernel_rfl
theorem j26:(Rows.cleanSameUptoRow.lifted==Tryz.pinned.checked.prog.liftsFinal)=true:=by kernel_rfl
theorem j27:(Tryz.pinned.checked.prog.make==some Rows.cleanSameUptoRow.make)=true:=by kernel_rfl
theorem j28:(Rows.cleanSameUptoRow.kinds==(if Rows.cleanSameUptoRow.domain.isEmpty then []else Tryz.f18.params.toList.map fun t=>match Tryz.pinned.checked.prog.underlying t with|some (.int k)=>some k|_=>none))=true:=by kernel_rfl
theorem j29:(Rows.cleanSameUptoRow.pinned==Rows.cleanSameUptoRow.pinnedBy)=true:=by kernel_rfl
theorem j30:(Rows.cleanSameUptoRow.veiled==(Tryz.f18.params.toList++(Rows.OpenSpec.upto Rows.cleanSameSpec).bare.plain.varTypes Tryz.pinned.checked.prog++Tryz.f18.resultTypes.toList).any (Tryz.pinned.checked.prog.veiledRec ·))=true:=by kernel_rfl
theorem j31:(Rows.cleanSameUptoRow.veiledFits Tryz.pinned.checked.prog Tryz.f18.params.toList (Tryz.f18.params.toList++(Rows.OpenSpec.upto Rows.cleanSameSpec).bare.plain.varTypes Tryz.pinned.checked.prog++Tryz.f18.resultTypes.toList))=true:=by kernel_rfl
theorem joined:joinedFacts Tryz.pinned.checked.prog 18 Tryz.f18 (Rows.OpenSpec.upto Rows.cleanSameSpec).bare Rows.cleanSameUptoRow=true:=by
 unfold joinedFacts;simp only[Bool.and_eq_true];refine⟨?_,j31⟩;refine⟨?_,j30⟩;refine⟨?_,j29⟩;refine⟨?_,j28⟩;refine⟨?_,j27⟩;refine⟨?_,j26⟩;refine⟨?_,j25⟩;refine⟨?_,j24⟩;refine⟨?_,j23⟩;refine⟨?_,j22⟩;refine⟨?_,j21⟩;refine⟨?_,j20⟩;refine⟨?_,j19⟩;refine⟨?_,j18⟩;refine⟨?_,j17⟩;refine⟨?_,j16⟩;refine⟨?_,j15⟩;refine⟨?_,j14⟩;refine⟨?_,j13⟩;refine⟨?_,j12⟩;refine⟨?_,j11⟩;refine⟨?_,j10⟩;refine⟨?_,j9⟩;refine⟨?_,j8⟩;refine⟨?_,j7⟩;refine⟨?_,j6⟩;refine⟨?_,j5⟩;refine⟨?_,j4⟩;refine⟨?_,j3⟩;refine⟨?_,j2⟩;refine⟨?_,j1⟩;exact j0
end Go.Proofs.YtcfgbdhpcboikaaGreatDoor.cleanSameUpto
