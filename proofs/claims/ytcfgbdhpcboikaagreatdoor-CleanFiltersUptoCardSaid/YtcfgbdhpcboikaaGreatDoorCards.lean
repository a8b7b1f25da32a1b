/-
  DERIVED. GIVEN WITH THE SEED: THE CARDS: each row of YtcfgbdhpcboikaaGreatDoorRows.lean that lists a variable, with what it lists TIED to the program's text (the seventh form; the later family's looks); each row that meets fmt, with fmt's text TOLD by the authors' own Lean function (tested against real Go, not proved from fmt's source: count such statements apart). THE CARD IS WHAT COUNTS. Prove the row's statement (the work); the ties are given (YtcfgbdhpcboikaaGreatDoorTie.lean); close each card by the builder's one call (the guide's Derived/Test/ToyasCard.lean, 'card_holds'). Laid BY PROGRAM, IN A SANDBOX (cutbox-door.mjs). By AI agents, Wed Nov 11 2026. No macro, syntax, notation, axiom, sorry.
-/
import Derived.Test.YtcfgbdhpcboikaaGreatDoorRows
import GoSem.ClaimSeven
namespace Go.Proofs.YtcfgbdhpcboikaaGreatDoor
namespace Rows

/-- THE TIED CARD OF 'colanderlaw10.RealSame'. -/
def realSameCard : Claim7 := { stood := { row := realSameRow, standIns := [], harness := (true, "794cf9c63e193e357b2310650565b2ed9be5052e667bbc52b7b459b6647c08dc"), looks := true }, kinds := [], alts := [], laidByText := true, laidKinds := [.data, .data, .widerDeep, .widerDeep, .data, .data, .data, .data, .data, .data, .sentinel, .sentinel, .pinned, .pinned, .pinned], laidTests := true, laidLooks := .later }
def RealSameCardSaid : Prop := Claim7.holds Tryz.pinned (.plain (OpenSpec.ofChange realSameSpec)) realSameCard

/-- THE TIED CARD OF 'colanderlaw18.PolicyKinds'. -/
def policyKindsCard : Claim7 := { stood := { row := policyKindsRow, standIns := [], harness := (true, "794cf9c63e193e357b2310650565b2ed9be5052e667bbc52b7b459b6647c08dc"), looks := true }, kinds := [], alts := [], laidByText := true, laidKinds := [.data, .data, .widerDeep, .widerDeep, .data, .data, .data, .data, .data, .data, .sentinel, .sentinel, .pinned, .pinned, .pinned], laidTests := true, laidLooks := .later }
def PolicyKindsCardSaid : Prop := Claim7.holds Tryz.pinned (.plain (OpenSpec.ofChange policyKindsSpec)) policyKindsCard

/-- THE TIED CARD OF 'colanderlaw18.PolicyTexts'. -/
def policyTextsCard : Claim7 := { stood := { row := policyTextsRow, standIns := [], harness := (true, "794cf9c63e193e357b2310650565b2ed9be5052e667bbc52b7b459b6647c08dc"), looks := true }, kinds := [], alts := [], laidByText := true, laidKinds := [.data, .data, .widerDeep, .widerDeep, .data, .data, .data, .data, .data, .data, .sentinel, .sentinel, .pinned, .pinned, .pinned], laidTests := true, laidLooks := .later }
def PolicyTextsCardSaid : Prop := Claim7.holds Tryz.pinned (.plain (OpenSpec.ofChange policyTextsSpec)) policyTextsCard

/-- THE TIED CARD OF 'colanderlaw18.PolicyOnce'. -/
def policyOnceCard : Claim7 := { stood := { row := policyOnceRow, standIns := [], harness := (true, "794cf9c63e193e357b2310650565b2ed9be5052e667bbc52b7b459b6647c08dc"), looks := true }, kinds := [], alts := [], laidByText := true, laidKinds := [.data, .data, .widerDeep, .widerDeep, .data, .data, .data, .data, .data, .data, .sentinel, .sentinel, .pinned, .pinned, .pinned], laidTests := true, laidLooks := .later }
def PolicyOnceCardSaid : Prop := Claim7.holds Tryz.pinned (.plain (OpenSpec.ofChange policyOnceSpec)) policyOnceCard

/-- THE TIED CARD OF 'colanderlaw18.PolicySchemes'. -/
def policySchemesCard : Claim7 := { stood := { row := policySchemesRow, standIns := [], harness := (true, "794cf9c63e193e357b2310650565b2ed9be5052e667bbc52b7b459b6647c08dc"), looks := true }, kinds := [], alts := [], laidByText := true, laidKinds := [.data, .data, .widerDeep, .widerDeep, .data, .data, .data, .data, .data, .data, .sentinel, .sentinel, .pinned, .pinned, .pinned], laidTests := true, laidLooks := .later }
def PolicySchemesCardSaid : Prop := Claim7.holds Tryz.pinned (.plain (OpenSpec.ofChange policySchemesSpec)) policySchemesCard

/-- THE TIED CARD OF 'colanderlaw18.PolicyDropped'. -/
def policyDroppedCard : Claim7 := { stood := { row := policyDroppedRow, standIns := [], harness := (true, "794cf9c63e193e357b2310650565b2ed9be5052e667bbc52b7b459b6647c08dc"), looks := true }, kinds := [], alts := [], laidByText := true, laidKinds := [.data, .data, .widerDeep, .widerDeep, .data, .data, .data, .data, .data, .data, .sentinel, .sentinel, .pinned, .pinned, .pinned], laidTests := true, laidLooks := .later }
def PolicyDroppedCardSaid : Prop := Claim7.holds Tryz.pinned (.plain (OpenSpec.ofChange policyDroppedSpec)) policyDroppedCard

/-- THE TIED CARD OF 'colanderlaw18.PolicyBroken'. -/
def policyBrokenCard : Claim7 := { stood := { row := policyBrokenRow, standIns := [], harness := (true, "794cf9c63e193e357b2310650565b2ed9be5052e667bbc52b7b459b6647c08dc"), looks := true }, kinds := [], alts := [], laidByText := true, laidKinds := [.data, .data, .widerDeep, .widerDeep, .data, .data, .data, .data, .data, .data, .sentinel, .sentinel, .pinned, .pinned, .pinned], laidTests := true, laidLooks := .later }
def PolicyBrokenCardSaid : Prop := Claim7.holds Tryz.pinned (.plain (OpenSpec.ofChange policyBrokenSpec)) policyBrokenCard

/-- THE TIED CARD OF 'colanderlaw18.PolicyValues'. -/
def policyValuesCard : Claim7 := { stood := { row := policyValuesRow, standIns := [], harness := (true, "794cf9c63e193e357b2310650565b2ed9be5052e667bbc52b7b459b6647c08dc"), looks := true }, kinds := [], alts := [], laidByText := true, laidKinds := [.data, .data, .widerDeep, .widerDeep, .data, .data, .data, .data, .data, .data, .sentinel, .sentinel, .pinned, .pinned, .pinned], laidTests := true, laidLooks := .later }
def PolicyValuesCardSaid : Prop := Claim7.holds Tryz.pinned (.plain (OpenSpec.ofChange policyValuesSpec)) policyValuesCard

/-- THE TIED CARD OF 'colanderlaw18.PolicyHolds'. -/
def policyHoldsCard : Claim7 := { stood := { row := policyHoldsRow, standIns := [], harness := (true, "794cf9c63e193e357b2310650565b2ed9be5052e667bbc52b7b459b6647c08dc"), looks := true }, kinds := [], alts := [], laidByText := true, laidKinds := [.data, .data, .widerDeep, .widerDeep, .data, .data, .data, .data, .data, .data, .sentinel, .sentinel, .pinned, .pinned, .pinned], laidTests := true, laidLooks := .later }
def PolicyHoldsCardSaid : Prop := Claim7.holds Tryz.pinned (.plain (OpenSpec.ofChange policyHoldsSpec)) policyHoldsCard

/-- THE TIED CARD OF 'colanderlaw19.CleanTexts'. -/
def cleanTextsCard : Claim7 := { stood := { row := cleanTextsRow, standIns := [], harness := (true, "794cf9c63e193e357b2310650565b2ed9be5052e667bbc52b7b459b6647c08dc"), looks := true }, kinds := [], alts := [], laidByText := true, laidKinds := [.data, .data, .widerDeep, .widerDeep, .data, .data, .data, .data, .data, .data, .sentinel, .sentinel, .pinned, .pinned, .pinned], laidTests := true, laidLooks := .later }
def CleanTextsCardSaid : Prop := Claim7.holds Tryz.pinned (.plain (OpenSpec.ofChange cleanTextsSpec)) cleanTextsCard

/-- THE TIED CARD OF 'colanderlaw19.CleanUnwraps'. -/
def cleanUnwrapsCard : Claim7 := { stood := { row := cleanUnwrapsRow, standIns := [], harness := (true, "794cf9c63e193e357b2310650565b2ed9be5052e667bbc52b7b459b6647c08dc"), looks := true }, kinds := [], alts := [], laidByText := true, laidKinds := [.data, .data, .widerDeep, .widerDeep, .data, .data, .data, .data, .data, .data, .sentinel, .sentinel, .pinned, .pinned, .pinned], laidTests := true, laidLooks := .later }
def CleanUnwrapsCardSaid : Prop := Claim7.holds Tryz.pinned (.plain (OpenSpec.ofChange cleanUnwrapsSpec)) cleanUnwrapsCard

/-- THE TIED CARD OF 'colanderlaw19.CleanParts'. -/
def cleanPartsCard : Claim7 := { stood := { row := cleanPartsRow, standIns := [], harness := (true, "794cf9c63e193e357b2310650565b2ed9be5052e667bbc52b7b459b6647c08dc"), looks := true }, kinds := [], alts := [], laidByText := true, laidKinds := [.data, .data, .widerDeep, .widerDeep, .data, .data, .data, .data, .data, .data, .sentinel, .sentinel, .pinned, .pinned, .pinned], laidTests := true, laidLooks := .later }
def CleanPartsCardSaid : Prop := Claim7.holds Tryz.pinned (.plain (OpenSpec.ofChange cleanPartsSpec)) cleanPartsCard

/-- THE TIED CARD OF 'colanderlaw19.CleanFilters'. -/
def cleanFiltersCard : Claim7 := { stood := { row := cleanFiltersRow, standIns := [], harness := (true, "794cf9c63e193e357b2310650565b2ed9be5052e667bbc52b7b459b6647c08dc"), looks := true }, kinds := [], alts := [], laidByText := true, laidKinds := [.data, .data, .widerDeep, .widerDeep, .data, .data, .data, .data, .data, .data, .sentinel, .sentinel, .pinned, .pinned, .pinned], laidTests := true, laidLooks := .later }
def CleanFiltersCardSaid : Prop := Claim7.holds Tryz.pinned (.plain (OpenSpec.ofChange cleanFiltersSpec)) cleanFiltersCard

/-- THE TIED CARD OF 'colanderlaw19.CleanPages'. -/
def cleanPagesCard : Claim7 := { stood := { row := cleanPagesRow, standIns := [], harness := (true, "794cf9c63e193e357b2310650565b2ed9be5052e667bbc52b7b459b6647c08dc"), looks := true }, kinds := [], alts := [], laidByText := true, laidKinds := [.data, .data, .widerDeep, .widerDeep, .data, .data, .data, .data, .data, .data, .sentinel, .sentinel, .pinned, .pinned, .pinned], laidTests := true, laidLooks := .later }
def CleanPagesCardSaid : Prop := Claim7.holds Tryz.pinned (.plain (OpenSpec.ofChange cleanPagesSpec)) cleanPagesCard

/-- THE TIED CARD OF 'colanderlaw19.CleanHolds'. -/
def cleanHoldsCard : Claim7 := { stood := { row := cleanHoldsRow, standIns := [], harness := (true, "794cf9c63e193e357b2310650565b2ed9be5052e667bbc52b7b459b6647c08dc"), looks := true }, kinds := [], alts := [], laidByText := true, laidKinds := [.data, .data, .widerDeep, .widerDeep, .data, .data, .data, .data, .data, .data, .sentinel, .sentinel, .pinned, .pinned, .pinned], laidTests := true, laidLooks := .later }
def CleanHoldsCardSaid : Prop := Claim7.holds Tryz.pinned (.plain (OpenSpec.ofChange cleanHoldsSpec)) cleanHoldsCard

/-- THE TIED CARD OF 'colanderlaw19.CleanSame'. -/
def cleanSameCard : Claim7 := { stood := { row := cleanSameRow, standIns := [], harness := (true, "794cf9c63e193e357b2310650565b2ed9be5052e667bbc52b7b459b6647c08dc"), looks := true }, kinds := [], alts := [], laidByText := true, laidKinds := [.data, .data, .widerDeep, .widerDeep, .data, .data, .data, .data, .data, .data, .sentinel, .sentinel, .pinned, .pinned, .pinned], laidTests := true, laidLooks := .later }
def CleanSameCardSaid : Prop := Claim7.holds Tryz.pinned (.plain (OpenSpec.ofChange cleanSameSpec)) cleanSameCard

/-- THE SECOND FORM's CARD OF 'colanderlaw10.RealSame'. -/
def realSameUptoCard : Claim7 := { stood := { row := realSameUptoRow, standIns := [], harness := (true, "794cf9c63e193e357b2310650565b2ed9be5052e667bbc52b7b459b6647c08dc"), looks := true }, kinds := [], alts := [], laidByText := true, laidKinds := [.data, .data, .widerDeep, .widerDeep, .data, .data, .data, .data, .data, .data, .sentinel, .sentinel, .pinned, .pinned, .pinned], laidTests := true, laidLooks := .later }
def RealSameUptoCardSaid : Prop := Claim7.holds Tryz.pinned (.plain (OpenSpec.upto realSameSpec)) realSameUptoCard

/-- THE SECOND FORM's CARD OF 'colanderlaw18.PolicyKinds'. -/
def policyKindsUptoCard : Claim7 := { stood := { row := policyKindsUptoRow, standIns := [], harness := (true, "794cf9c63e193e357b2310650565b2ed9be5052e667bbc52b7b459b6647c08dc"), looks := true }, kinds := [], alts := [], laidByText := true, laidKinds := [.data, .data, .widerDeep, .widerDeep, .data, .data, .data, .data, .data, .data, .sentinel, .sentinel, .pinned, .pinned, .pinned], laidTests := true, laidLooks := .later }
def PolicyKindsUptoCardSaid : Prop := Claim7.holds Tryz.pinned (.plain (OpenSpec.upto policyKindsSpec)) policyKindsUptoCard

/-- THE SECOND FORM's CARD OF 'colanderlaw18.PolicyTexts'. -/
def policyTextsUptoCard : Claim7 := { stood := { row := policyTextsUptoRow, standIns := [], harness := (true, "794cf9c63e193e357b2310650565b2ed9be5052e667bbc52b7b459b6647c08dc"), looks := true }, kinds := [], alts := [], laidByText := true, laidKinds := [.data, .data, .widerDeep, .widerDeep, .data, .data, .data, .data, .data, .data, .sentinel, .sentinel, .pinned, .pinned, .pinned], laidTests := true, laidLooks := .later }
def PolicyTextsUptoCardSaid : Prop := Claim7.holds Tryz.pinned (.plain (OpenSpec.upto policyTextsSpec)) policyTextsUptoCard

/-- THE SECOND FORM's CARD OF 'colanderlaw18.PolicyOnce'. -/
def policyOnceUptoCard : Claim7 := { stood := { row := policyOnceUptoRow, standIns := [], harness := (true, "794cf9c63e193e357b2310650565b2ed9be5052e667bbc52b7b459b6647c08dc"), looks := true }, kinds := [], alts := [], laidByText := true, laidKinds := [.data, .data, .widerDeep, .widerDeep, .data, .data, .data, .data, .data, .data, .sentinel, .sentinel, .pinned, .pinned, .pinned], laidTests := true, laidLooks := .later }
def PolicyOnceUptoCardSaid : Prop := Claim7.holds Tryz.pinned (.plain (OpenSpec.upto policyOnceSpec)) policyOnceUptoCard

/-- THE SECOND FORM's CARD OF 'colanderlaw18.PolicySchemes'. -/
def policySchemesUptoCard : Claim7 := { stood := { row := policySchemesUptoRow, standIns := [], harness := (true, "794cf9c63e193e357b2310650565b2ed9be5052e667bbc52b7b459b6647c08dc"), looks := true }, kinds := [], alts := [], laidByText := true, laidKinds := [.data, .data, .widerDeep, .widerDeep, .data, .data, .data, .data, .data, .data, .sentinel, .sentinel, .pinned, .pinned, .pinned], laidTests := true, laidLooks := .later }
def PolicySchemesUptoCardSaid : Prop := Claim7.holds Tryz.pinned (.plain (OpenSpec.upto policySchemesSpec)) policySchemesUptoCard

/-- THE SECOND FORM's CARD OF 'colanderlaw18.PolicyDropped'. -/
def policyDroppedUptoCard : Claim7 := { stood := { row := policyDroppedUptoRow, standIns := [], harness := (true, "794cf9c63e193e357b2310650565b2ed9be5052e667bbc52b7b459b6647c08dc"), looks := true }, kinds := [], alts := [], laidByText := true, laidKinds := [.data, .data, .widerDeep, .widerDeep, .data, .data, .data, .data, .data, .data, .sentinel, .sentinel, .pinned, .pinned, .pinned], laidTests := true, laidLooks := .later }
def PolicyDroppedUptoCardSaid : Prop := Claim7.holds Tryz.pinned (.plain (OpenSpec.upto policyDroppedSpec)) policyDroppedUptoCard

/-- THE SECOND FORM's CARD OF 'colanderlaw18.PolicyBroken'. -/
def policyBrokenUptoCard : Claim7 := { stood := { row := policyBrokenUptoRow, standIns := [], harness := (true, "794cf9c63e193e357b2310650565b2ed9be5052e667bbc52b7b459b6647c08dc"), looks := true }, kinds := [], alts := [], laidByText := true, laidKinds := [.data, .data, .widerDeep, .widerDeep, .data, .data, .data, .data, .data, .data, .sentinel, .sentinel, .pinned, .pinned, .pinned], laidTests := true, laidLooks := .later }
def PolicyBrokenUptoCardSaid : Prop := Claim7.holds Tryz.pinned (.plain (OpenSpec.upto policyBrokenSpec)) policyBrokenUptoCard

/-- THE SECOND FORM's CARD OF 'colanderlaw18.PolicyValues'. -/
def policyValuesUptoCard : Claim7 := { stood := { row := policyValuesUptoRow, standIns := [], harness := (true, "794cf9c63e193e357b2310650565b2ed9be5052e667bbc52b7b459b6647c08dc"), looks := true }, kinds := [], alts := [], laidByText := true, laidKinds := [.data, .data, .widerDeep, .widerDeep, .data, .data, .data, .data, .data, .data, .sentinel, .sentinel, .pinned, .pinned, .pinned], laidTests := true, laidLooks := .later }
def PolicyValuesUptoCardSaid : Prop := Claim7.holds Tryz.pinned (.plain (OpenSpec.upto policyValuesSpec)) policyValuesUptoCard

/-- THE SECOND FORM's CARD OF 'colanderlaw18.PolicyHolds'. -/
def policyHoldsUptoCard : Claim7 := { stood := { row := policyHoldsUptoRow, standIns := [], harness := (true, "794cf9c63e193e357b2310650565b2ed9be5052e667bbc52b7b459b6647c08dc"), looks := true }, kinds := [], alts := [], laidByText := true, laidKinds := [.data, .data, .widerDeep, .widerDeep, .data, .data, .data, .data, .data, .data, .sentinel, .sentinel, .pinned, .pinned, .pinned], laidTests := true, laidLooks := .later }
def PolicyHoldsUptoCardSaid : Prop := Claim7.holds Tryz.pinned (.plain (OpenSpec.upto policyHoldsSpec)) policyHoldsUptoCard

/-- THE SECOND FORM's CARD OF 'colanderlaw19.CleanTexts'. -/
def cleanTextsUptoCard : Claim7 := { stood := { row := cleanTextsUptoRow, standIns := [], harness := (true, "794cf9c63e193e357b2310650565b2ed9be5052e667bbc52b7b459b6647c08dc"), looks := true }, kinds := [], alts := [], laidByText := true, laidKinds := [.data, .data, .widerDeep, .widerDeep, .data, .data, .data, .data, .data, .data, .sentinel, .sentinel, .pinned, .pinned, .pinned], laidTests := true, laidLooks := .later }
def CleanTextsUptoCardSaid : Prop := Claim7.holds Tryz.pinned (.plain (OpenSpec.upto cleanTextsSpec)) cleanTextsUptoCard

/-- THE SECOND FORM's CARD OF 'colanderlaw19.CleanUnwraps'. -/
def cleanUnwrapsUptoCard : Claim7 := { stood := { row := cleanUnwrapsUptoRow, standIns := [], harness := (true, "794cf9c63e193e357b2310650565b2ed9be5052e667bbc52b7b459b6647c08dc"), looks := true }, kinds := [], alts := [], laidByText := true, laidKinds := [.data, .data, .widerDeep, .widerDeep, .data, .data, .data, .data, .data, .data, .sentinel, .sentinel, .pinned, .pinned, .pinned], laidTests := true, laidLooks := .later }
def CleanUnwrapsUptoCardSaid : Prop := Claim7.holds Tryz.pinned (.plain (OpenSpec.upto cleanUnwrapsSpec)) cleanUnwrapsUptoCard

/-- THE SECOND FORM's CARD OF 'colanderlaw19.CleanParts'. -/
def cleanPartsUptoCard : Claim7 := { stood := { row := cleanPartsUptoRow, standIns := [], harness := (true, "794cf9c63e193e357b2310650565b2ed9be5052e667bbc52b7b459b6647c08dc"), looks := true }, kinds := [], alts := [], laidByText := true, laidKinds := [.data, .data, .widerDeep, .widerDeep, .data, .data, .data, .data, .data, .data, .sentinel, .sentinel, .pinned, .pinned, .pinned], laidTests := true, laidLooks := .later }
def CleanPartsUptoCardSaid : Prop := Claim7.holds Tryz.pinned (.plain (OpenSpec.upto cleanPartsSpec)) cleanPartsUptoCard

/-- THE SECOND FORM's CARD OF 'colanderlaw19.CleanFilters'. -/
def cleanFiltersUptoCard : Claim7 := { stood := { row := cleanFiltersUptoRow, standIns := [], harness := (true, "794cf9c63e193e357b2310650565b2ed9be5052e667bbc52b7b459b6647c08dc"), looks := true }, kinds := [], alts := [], laidByText := true, laidKinds := [.data, .data, .widerDeep, .widerDeep, .data, .data, .data, .data, .data, .data, .sentinel, .sentinel, .pinned, .pinned, .pinned], laidTests := true, laidLooks := .later }
def CleanFiltersUptoCardSaid : Prop := Claim7.holds Tryz.pinned (.plain (OpenSpec.upto cleanFiltersSpec)) cleanFiltersUptoCard

/-- THE SECOND FORM's CARD OF 'colanderlaw19.CleanPages'. -/
def cleanPagesUptoCard : Claim7 := { stood := { row := cleanPagesUptoRow, standIns := [], harness := (true, "794cf9c63e193e357b2310650565b2ed9be5052e667bbc52b7b459b6647c08dc"), looks := true }, kinds := [], alts := [], laidByText := true, laidKinds := [.data, .data, .widerDeep, .widerDeep, .data, .data, .data, .data, .data, .data, .sentinel, .sentinel, .pinned, .pinned, .pinned], laidTests := true, laidLooks := .later }
def CleanPagesUptoCardSaid : Prop := Claim7.holds Tryz.pinned (.plain (OpenSpec.upto cleanPagesSpec)) cleanPagesUptoCard

/-- THE SECOND FORM's CARD OF 'colanderlaw19.CleanHolds'. -/
def cleanHoldsUptoCard : Claim7 := { stood := { row := cleanHoldsUptoRow, standIns := [], harness := (true, "794cf9c63e193e357b2310650565b2ed9be5052e667bbc52b7b459b6647c08dc"), looks := true }, kinds := [], alts := [], laidByText := true, laidKinds := [.data, .data, .widerDeep, .widerDeep, .data, .data, .data, .data, .data, .data, .sentinel, .sentinel, .pinned, .pinned, .pinned], laidTests := true, laidLooks := .later }
def CleanHoldsUptoCardSaid : Prop := Claim7.holds Tryz.pinned (.plain (OpenSpec.upto cleanHoldsSpec)) cleanHoldsUptoCard

/-- THE SECOND FORM's CARD OF 'colanderlaw19.CleanSame'. -/
def cleanSameUptoCard : Claim7 := { stood := { row := cleanSameUptoRow, standIns := [], harness := (true, "794cf9c63e193e357b2310650565b2ed9be5052e667bbc52b7b459b6647c08dc"), looks := true }, kinds := [], alts := [], laidByText := true, laidKinds := [.data, .data, .widerDeep, .widerDeep, .data, .data, .data, .data, .data, .data, .sentinel, .sentinel, .pinned, .pinned, .pinned], laidTests := true, laidLooks := .later }
def CleanSameUptoCardSaid : Prop := Claim7.holds Tryz.pinned (.plain (OpenSpec.upto cleanSameSpec)) cleanSameUptoCard
end Rows
end Go.Proofs.YtcfgbdhpcboikaaGreatDoor
