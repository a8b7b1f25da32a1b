/-
CleanFilters: the card's closed facts on the program, each by itself.
-/
import Derived.Test.YtcfgbdhpcboikaaGreatDoorAa
import Derived.Test.YtcfgbdhpcboikaaGreatDoorCards
namespace Go.Proofs.YtcfgbdhpcboikaaGreatDoor.cleanFiltersUpto
theorem k1:OpenClaim.wfByText (Rows.OpenSpec.upto Rows.cleanFiltersSpec) Rows.cleanFiltersUptoRow=true:=by kernel_rfl
theorem k2:Tryz.pinned.checked.prog.mainIs=some ((true,"794cf9c63e193e357b2310650565b2ed9be5052e667bbc52b7b459b6647c08dc").fst,(true,"794cf9c63e193e357b2310650565b2ed9be5052e667bbc52b7b459b6647c08dc").snd.toList):=by kernel_rfl
theorem k3:true=Tryz.pinned.checked.prog.looks []:=by kernel_rfl
theorem k4:false=Rows.cleanFiltersUptoRow.goesBy Tryz.pinned.checked.prog:=by kernel_rfl
theorem k5:Tryz.prog.funcNamed "colander/colanderlaw19.CleanFilters" = some 15:=by kernel_rfl
theorem k6:([9,43].all fun u=>!Tryz.prog.wantsStandIn u)=true:=by kernel_rfl
end Go.Proofs.YtcfgbdhpcboikaaGreatDoor.cleanFiltersUpto
