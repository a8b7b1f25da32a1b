/-
CleanFilters: the closed facts on the program, each by itself (together they outgrow a Lean process).
-/
import Derived.Test.YtcfgbdhpcboikaaGreatDoorAa
import Derived.Test.YtcfgbdhpcboikaaGreatDoorRows
import Derived.JoinedOf
namespace Go.Proofs.YtcfgbdhpcboikaaGreatDoor.cleanFiltersUpto
set_option maxRecDepth 100000
theorem j0:(Rows.cleanFiltersUptoRow.wf (OpenSpec.ofChange (Rows.OpenSpec.upto Rows.cleanFiltersSpec).bare))=true:=by kernel_rfl
theorem j1:(laidOutB Tryz.pinned.checked.prog)=true:=by kernel_rfl
theorem j2:(mapsRowed Tryz.pinned.checked.prog)=true:=by kernel_rfl
theorem j3:(Tryz.f15.params.all (Tryz.pinned.checked.prog.readableRec ·))=true:=by kernel_rfl
theorem j4:(namedTie Tryz.pinned.checked.prog Rows.cleanFiltersUptoRow.named (Rows.OpenSpec.upto Rows.cleanFiltersSpec).bare.vars)=true:=by kernel_rfl
theorem j5:(Rows.cleanFiltersUptoRow.stops==[])=true:=by kernel_rfl
theorem j6:(Tryz.pinned.checked.prog.stops==[])=true:=by kernel_rfl
theorem j7:(Rows.cleanFiltersUptoRow.knobs==[])=true:=by kernel_rfl
theorem j8:(Tryz.pinned.checked.prog.stopKnobs==[])=true:=by kernel_rfl
theorem j9:(Rows.cleanFiltersUptoRow.inPlace==Tryz.pinned.checked.prog.inPlace 15)=true:=by kernel_rfl
theorem j10:(Rows.cleanFiltersUptoRow.unfollowed==Tryz.pinned.checked.prog.unfollowed 15)=true:=by kernel_rfl
theorem j11:(Rows.cleanFiltersUptoRow.recurses==Tryz.pinned.checked.prog.recurses 15)=true:=by kernel_rfl
theorem j12:(Rows.cleanFiltersUptoRow.named==Tryz.pinned.checked.prog.varsNamed 15)=true:=by kernel_rfl
theorem j13:(Rows.cleanFiltersUptoRow.maps==(Tryz.f15.params.toList++(Rows.OpenSpec.upto Rows.cleanFiltersSpec).bare.plain.varTypes Tryz.pinned.checked.prog).any (Tryz.pinned.checked.prog.mapsRec ·))=true:=by kernel_rfl
theorem j14:(Rows.cleanFiltersUptoRow.ifaces==(Tryz.f15.params.toList++(Rows.OpenSpec.upto Rows.cleanFiltersSpec).bare.plain.varTypes Tryz.pinned.checked.prog).any (Tryz.pinned.checked.prog.ifacesRec ·))=true:=by kernel_rfl
theorem j15:(Rows.cleanFiltersUptoRow.mapsOut==Tryz.pinned.checked.prog.mapsAmong Tryz.f15.resultTypes.toList)=true:=by kernel_rfl
theorem j16:(Rows.cleanFiltersUptoRow.loops==(Tryz.f15.params.toList++(Rows.OpenSpec.upto Rows.cleanFiltersSpec).bare.plain.varTypes Tryz.pinned.checked.prog).any (Tryz.pinned.checked.prog.loopsFrom ·))=true:=by kernel_rfl
theorem j17:(Rows.cleanFiltersUptoRow.wideKeys==(Tryz.f15.params.toList++(Rows.OpenSpec.upto Rows.cleanFiltersSpec).bare.plain.varTypes Tryz.pinned.checked.prog++Tryz.f15.resultTypes.toList).any (Tryz.pinned.checked.prog.wideKeysFrom ·))=true:=by kernel_rfl
theorem j18:((Rows.OpenSpec.upto Rows.cleanFiltersSpec).bare.vars.all (Tryz.pinned.checked.prog.varReadable ·))=true:=by kernel_rfl
theorem j19:(Tryz.f15.resultTypes.all (fun t=>Tryz.pinned.checked.prog.readableRec t&&decide (t<Tryz.pinned.checked.prog.types.size)))=true:=by kernel_rfl
theorem j20:(Rows.cleanFiltersUptoRow.ifacesOut==Tryz.f15.resultTypes.toList.any (Tryz.pinned.checked.prog.ifacesRec ·))=true:=by kernel_rfl
theorem j21:(Rows.cleanFiltersUptoRow.loopsOut==Tryz.f15.resultTypes.toList.any (Tryz.pinned.checked.prog.loopsFrom ·))=true:=by kernel_rfl
theorem j22:(Rows.cleanFiltersUptoRow.plainKeys==Tryz.pinned.checked.prog.plainKeys)=true:=by kernel_rfl
theorem j23:(Rows.cleanFiltersUptoRow.shortTexts.isNone)=true:=by kernel_rfl
theorem j24:(Tryz.pinned.checked.prog.stopsHeard)=true:=by kernel_rfl
theorem j25:(Tryz.pinned.checked.prog.mayEnter)=true:=by kernel_rfl
theorem j26:(Rows.cleanFiltersUptoRow.lifted==Tryz.pinned.checked.prog.liftsFinal)=true:=by kernel_rfl
theorem j27:(Tryz.pinned.checked.prog.make==some Rows.cleanFiltersUptoRow.make)=true:=by kernel_rfl
theorem j28:(Rows.cleanFiltersUptoRow.kinds==(if Rows.cleanFiltersUptoRow.domain.isEmpty then []else Tryz.f15.params.toList.map fun t=>match Tryz.pinned.checked.prog.underlying t with|some (.int k)=>some k|_=>none))=true:=by kernel_rfl
theorem j29:(Rows.cleanFiltersUptoRow.pinned==Rows.cleanFiltersUptoRow.pinnedBy)=true:=by kernel_rfl
theorem j30:(Rows.cleanFiltersUptoRow.veiled==(Tryz.f15.params.toList++(Rows.OpenSpec.upto Rows.cleanFiltersSpec).bare.plain.varTypes Tryz.pinned.checked.prog++Tryz.f15.resultTypes.toList).any (Tryz.pinned.checked.prog.veiledRec ·))=true:=by kernel_rfl
theorem j31:(Rows.cleanFiltersUptoRow.veiledFits Tryz.pinned.checked.prog Tryz.f15.params.toList (Tryz.f15.params.toList++(Rows.OpenSpec.upto Rows.cleanFiltersSpec).bare.plain.varTypes Tryz.pinned.checked.prog++Tryz.f15.resultTypes.toList))=true:=by kernel_rfl
theorem joined:joinedFacts Tryz.pinned.checked.prog 15 Tryz.f15 (Rows.OpenSpec.upto Rows.cleanFiltersSpec).bare Rows.cleanFiltersUptoRow=true:=by
 unfold joinedFacts;simp only[bp];refine⟨?_,j31⟩;refine⟨?_,j30⟩;refine⟨?_,j29⟩;refine⟨?_,j28⟩;refine⟨?_,j27⟩;refine⟨?_,j26⟩;refine⟨?_,j25⟩;refine⟨?_,j24⟩;refine⟨?_,j23⟩;refine⟨?_,j22⟩;refine⟨?_,j21⟩;refine⟨?_,j20⟩;refine⟨?_,j19⟩;refine⟨?_,j18⟩;refine⟨?_,j17⟩;refine⟨?_,j16⟩;refine⟨?_,j15⟩;refine⟨?_,j14⟩;refine⟨?_,j13⟩;refine⟨?_,j12⟩;refine⟨?_,j11⟩;refine⟨?_,j10⟩;refine⟨?_,j9⟩;refine⟨?_,j8⟩;refine⟨?_,j7⟩;refine⟨?_,j6⟩;refine⟨?_,j5⟩;refine⟨?_,j4⟩;refine⟨?_,j3⟩;refine⟨?_,j2⟩;refine⟨?_,j1⟩;exact j0
end Go.Proofs.YtcfgbdhpcboikaaGreatDoor.cleanFiltersUpto
