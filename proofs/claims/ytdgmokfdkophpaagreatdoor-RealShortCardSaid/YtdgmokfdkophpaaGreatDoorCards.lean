/-
  DERIVED. GIVEN WITH THE SEED: THE CARDS: each row of YtdgmokfdkophpaaGreatDoorRows.lean that lists a variable, with what it lists TIED to the program's text (the seventh form; the later family's looks); each row that meets fmt, with fmt's text TOLD by the authors' own Lean function (tested against real Go, not proved from fmt's source: count such statements apart). THE CARD IS WHAT COUNTS. Prove the row's statement (the work); the ties are given (YtdgmokfdkophpaaGreatDoorTie.lean); close each card by the builder's one call (the guide's Derived/Test/ToyasCard.lean, 'card_holds'). Laid BY PROGRAM, IN A SANDBOX (cutbox-door.mjs). By AI agents, Wed Nov 11 2026. No macro, syntax, notation, axiom, sorry.
-/
import Derived.Test.YtdgmokfdkophpaaGreatDoorRows
import GoSem.ClaimSeven
namespace Go.Proofs.YtdgmokfdkophpaaGreatDoor
namespace Rows

/-- THE TIED CARD OF 'colanderlaw10.RealOrders'. -/
def realOrdersCard : Claim7 := { stood := { row := realOrdersRow, standIns := [], harness := (true, "0c0a962ea3c28701a8dd09be80e22005f6c0b66a80f425a4b2fc20c4a68c337f"), looks := true }, kinds := [], alts := [], laidByText := true, laidKinds := [.data, .data, .widerDeep, .widerDeep, .data, .data, .data, .data, .data, .data, .sentinel, .sentinel, .pinned, .pinned, .pinned], laidTests := true, laidLooks := .later }
def RealOrdersCardSaid : Prop := Claim7.holds Tryz.pinned (.plain (OpenSpec.ofChange realOrdersSpec)) realOrdersCard

/-- THE TIED CARD OF 'colanderlaw10.RealWholes'. -/
def realWholesCard : Claim7 := { stood := { row := realWholesRow, standIns := [], harness := (true, "0c0a962ea3c28701a8dd09be80e22005f6c0b66a80f425a4b2fc20c4a68c337f"), looks := true }, kinds := [], alts := [], laidByText := true, laidKinds := [.data, .data, .widerDeep, .widerDeep, .data, .data, .data, .data, .data, .data, .sentinel, .sentinel, .pinned, .pinned, .pinned], laidTests := true, laidLooks := .later }
def RealWholesCardSaid : Prop := Claim7.holds Tryz.pinned (.plain (OpenSpec.ofChange realWholesSpec)) realWholesCard

/-- THE TIED CARD OF 'colanderlaw10.RealBack'. -/
def realBackCard : Claim7 := { stood := { row := realBackRow, standIns := [], harness := (true, "0c0a962ea3c28701a8dd09be80e22005f6c0b66a80f425a4b2fc20c4a68c337f"), looks := true }, kinds := [], alts := [], laidByText := true, laidKinds := [.data, .data, .widerDeep, .widerDeep, .data, .data, .data, .data, .data, .data, .sentinel, .sentinel, .pinned, .pinned, .pinned], laidTests := true, laidLooks := .later }
def RealBackCardSaid : Prop := Claim7.holds Tryz.pinned (.plain (OpenSpec.ofChange realBackSpec)) realBackCard

/-- THE TIED CARD OF 'colanderlaw10.RealSame'. -/
def realSameCard : Claim7 := { stood := { row := realSameRow, standIns := [], harness := (true, "0c0a962ea3c28701a8dd09be80e22005f6c0b66a80f425a4b2fc20c4a68c337f"), looks := true }, kinds := [], alts := [], laidByText := true, laidKinds := [.data, .data, .widerDeep, .widerDeep, .data, .data, .data, .data, .data, .data, .sentinel, .sentinel, .pinned, .pinned, .pinned], laidTests := true, laidLooks := .later }
def RealSameCardSaid : Prop := Claim7.holds Tryz.pinned (.plain (OpenSpec.ofChange realSameSpec)) realSameCard

/-- THE TIED CARD OF 'colanderlaw10.RealShort'. -/
def realShortCard : Claim7 := { stood := { row := realShortRow, standIns := [], harness := (true, "0c0a962ea3c28701a8dd09be80e22005f6c0b66a80f425a4b2fc20c4a68c337f"), looks := true }, kinds := [], alts := [], laidByText := true, laidKinds := [.data, .data, .widerDeep, .widerDeep, .data, .data, .data, .data, .data, .data, .sentinel, .sentinel, .pinned, .pinned, .pinned], laidTests := true, laidLooks := .later }
def RealShortCardSaid : Prop := Claim7.holds Tryz.pinned (.plain (OpenSpec.ofChange realShortSpec)) realShortCard

/-- THE TIED CARD OF 'colanderlaw10.RealTotal'. -/
def realTotalCard : Claim7 := { stood := { row := realTotalRow, standIns := [], harness := (true, "0c0a962ea3c28701a8dd09be80e22005f6c0b66a80f425a4b2fc20c4a68c337f"), looks := true }, kinds := [], alts := [], laidByText := true, laidKinds := [.data, .data, .widerDeep, .widerDeep, .data, .data, .data, .data, .data, .data, .sentinel, .sentinel, .pinned, .pinned, .pinned], laidTests := true, laidLooks := .later }
def RealTotalCardSaid : Prop := Claim7.holds Tryz.pinned (.plain (OpenSpec.ofChange realTotalSpec)) realTotalCard

/-- THE TIED CARD OF 'colanderlaw10.RealWrites'. -/
def realWritesCard : Claim7 := { stood := { row := realWritesRow, standIns := [], harness := (true, "0c0a962ea3c28701a8dd09be80e22005f6c0b66a80f425a4b2fc20c4a68c337f"), looks := true }, kinds := [], alts := [], laidByText := true, laidKinds := [.data, .data, .widerDeep, .widerDeep, .data, .data, .data, .data, .data, .data, .sentinel, .sentinel, .pinned, .pinned, .pinned], laidTests := true, laidLooks := .later }
def RealWritesCardSaid : Prop := Claim7.holds Tryz.pinned (.plain (OpenSpec.ofChange realWritesSpec)) realWritesCard

/-- THE SECOND FORM's CARD OF 'colanderlaw10.RealOrders'. -/
def realOrdersUptoCard : Claim7 := { stood := { row := realOrdersUptoRow, standIns := [], harness := (true, "0c0a962ea3c28701a8dd09be80e22005f6c0b66a80f425a4b2fc20c4a68c337f"), looks := true }, kinds := [], alts := [], laidByText := true, laidKinds := [.data, .data, .widerDeep, .widerDeep, .data, .data, .data, .data, .data, .data, .sentinel, .sentinel, .pinned, .pinned, .pinned], laidTests := true, laidLooks := .later }
def RealOrdersUptoCardSaid : Prop := Claim7.holds Tryz.pinned (.plain (OpenSpec.upto realOrdersSpec)) realOrdersUptoCard

/-- THE SECOND FORM's CARD OF 'colanderlaw10.RealWholes'. -/
def realWholesUptoCard : Claim7 := { stood := { row := realWholesUptoRow, standIns := [], harness := (true, "0c0a962ea3c28701a8dd09be80e22005f6c0b66a80f425a4b2fc20c4a68c337f"), looks := true }, kinds := [], alts := [], laidByText := true, laidKinds := [.data, .data, .widerDeep, .widerDeep, .data, .data, .data, .data, .data, .data, .sentinel, .sentinel, .pinned, .pinned, .pinned], laidTests := true, laidLooks := .later }
def RealWholesUptoCardSaid : Prop := Claim7.holds Tryz.pinned (.plain (OpenSpec.upto realWholesSpec)) realWholesUptoCard

/-- THE SECOND FORM's CARD OF 'colanderlaw10.RealBack'. -/
def realBackUptoCard : Claim7 := { stood := { row := realBackUptoRow, standIns := [], harness := (true, "0c0a962ea3c28701a8dd09be80e22005f6c0b66a80f425a4b2fc20c4a68c337f"), looks := true }, kinds := [], alts := [], laidByText := true, laidKinds := [.data, .data, .widerDeep, .widerDeep, .data, .data, .data, .data, .data, .data, .sentinel, .sentinel, .pinned, .pinned, .pinned], laidTests := true, laidLooks := .later }
def RealBackUptoCardSaid : Prop := Claim7.holds Tryz.pinned (.plain (OpenSpec.upto realBackSpec)) realBackUptoCard

/-- THE SECOND FORM's CARD OF 'colanderlaw10.RealSame'. -/
def realSameUptoCard : Claim7 := { stood := { row := realSameUptoRow, standIns := [], harness := (true, "0c0a962ea3c28701a8dd09be80e22005f6c0b66a80f425a4b2fc20c4a68c337f"), looks := true }, kinds := [], alts := [], laidByText := true, laidKinds := [.data, .data, .widerDeep, .widerDeep, .data, .data, .data, .data, .data, .data, .sentinel, .sentinel, .pinned, .pinned, .pinned], laidTests := true, laidLooks := .later }
def RealSameUptoCardSaid : Prop := Claim7.holds Tryz.pinned (.plain (OpenSpec.upto realSameSpec)) realSameUptoCard

/-- THE SECOND FORM's CARD OF 'colanderlaw10.RealShort'. -/
def realShortUptoCard : Claim7 := { stood := { row := realShortUptoRow, standIns := [], harness := (true, "0c0a962ea3c28701a8dd09be80e22005f6c0b66a80f425a4b2fc20c4a68c337f"), looks := true }, kinds := [], alts := [], laidByText := true, laidKinds := [.data, .data, .widerDeep, .widerDeep, .data, .data, .data, .data, .data, .data, .sentinel, .sentinel, .pinned, .pinned, .pinned], laidTests := true, laidLooks := .later }
def RealShortUptoCardSaid : Prop := Claim7.holds Tryz.pinned (.plain (OpenSpec.upto realShortSpec)) realShortUptoCard

/-- THE SECOND FORM's CARD OF 'colanderlaw10.RealTotal'. -/
def realTotalUptoCard : Claim7 := { stood := { row := realTotalUptoRow, standIns := [], harness := (true, "0c0a962ea3c28701a8dd09be80e22005f6c0b66a80f425a4b2fc20c4a68c337f"), looks := true }, kinds := [], alts := [], laidByText := true, laidKinds := [.data, .data, .widerDeep, .widerDeep, .data, .data, .data, .data, .data, .data, .sentinel, .sentinel, .pinned, .pinned, .pinned], laidTests := true, laidLooks := .later }
def RealTotalUptoCardSaid : Prop := Claim7.holds Tryz.pinned (.plain (OpenSpec.upto realTotalSpec)) realTotalUptoCard

/-- THE SECOND FORM's CARD OF 'colanderlaw10.RealWrites'. -/
def realWritesUptoCard : Claim7 := { stood := { row := realWritesUptoRow, standIns := [], harness := (true, "0c0a962ea3c28701a8dd09be80e22005f6c0b66a80f425a4b2fc20c4a68c337f"), looks := true }, kinds := [], alts := [], laidByText := true, laidKinds := [.data, .data, .widerDeep, .widerDeep, .data, .data, .data, .data, .data, .data, .sentinel, .sentinel, .pinned, .pinned, .pinned], laidTests := true, laidLooks := .later }
def RealWritesUptoCardSaid : Prop := Claim7.holds Tryz.pinned (.plain (OpenSpec.upto realWritesSpec)) realWritesUptoCard
end Rows
end Go.Proofs.YtdgmokfdkophpaaGreatDoor
