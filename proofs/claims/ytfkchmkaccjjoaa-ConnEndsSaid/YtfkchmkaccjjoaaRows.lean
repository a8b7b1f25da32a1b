/-
  No cell of these rows narrows 'for every input' (looked for: loops, veiled, ifaces, maps, wideKeys, modest, calm, conditions, laid).
  DERIVED. THE GIVEN ROWS OF THIS SEAT. 4 by the template 'for every input the law returns true; each argument reads behind the call as it read before'; 0 by the template 'total and deterministic' (their statements: YtfkchmkaccjjoaaTotals.lean).
  GIVEN WITH THE SEED: the statements are not yours to turn. If you find one false, say at which input.
  Laid BY PROGRAM, IN A SANDBOX (cutbox-rows.mjs): the forced cells as the released guide's own fill.sh prints them over the translation b4410b1bec30b548… (all of the seat's roots in one cut). By AI agents, Wed Nov 11 2026. No macro, syntax, notation, axiom, sorry.
-/
import Derived.Test.YtfkchmkaccjjoaaChecked
import GoSem.Claim
import GoSem.ClaimJoined
import GoSem.ClaimMapViews
import Derived.JoinedTies
import Derived.KernelRfl
namespace Go.Proofs.Ytfkchmkaccjjoaa
/- THE CELL 'sum', in the pinned program and in every row, IS THE sha256 OF THE DUMP (.gsa) THAT YtfkchmkaccjjoaaProg.lean LOADS. Nothing in Lean hashes anything: it is a label: what it is worth is what the hold of that sum in a sandbox is worth. -/
noncomputable def Try.pinned : Pinned := { name := "ytfkchmkaccjjoaa", sum := "b4410b1bec30b548428d7f856ae6070894372cf3ec8ae64944a61c103c841dc8", checked := Try.checked }
namespace Rows
def none {H : Type} : Left H := { results := [], args := [] }

/-- 'colanderlaw01.RingOrder': WHATEVER THE INPUT: true; the input reads as it did. -/
def ringOrderSpec : ChangeSpec := { name := "ringOrder", fn := fun _ => fun
  | [d1, d2, d3] => { results := [.lit (.bool true)], args := [d1, d2, d3] }
  | _ => none }
def ringOrderRow : OpenClaim := { program := "ytfkchmkaccjjoaa", sum := "b4410b1bec30b548428d7f856ae6070894372cf3ec8ae64944a61c103c841dc8", func := "colander/colanderlaw01.RingOrder", spec := "ringOrder", apart := false }
def RingOrderSaid : Prop := ringOrderRow.holds Try.pinned (OpenSpec.ofChange ringOrderSpec)

/-- ITS FALSE NEIGHBOUR: 'it returns false'. Refute it at one input. -/
def ringOrderWrong : ChangeSpec := { name := "ringOrder", fn := fun _ => fun
  | [d1, d2, d3] => { results := [.lit (.bool false)], args := [d1, d2, d3] }
  | _ => none }
def RingOrderWrongFalsely : Prop := ringOrderRow.holds Try.pinned (OpenSpec.ofChange ringOrderWrong)

/-- 'colanderlaw01.RingPlays': WHATEVER THE INPUT: true; the input reads as it did. -/
def ringPlaysSpec : ChangeSpec := { name := "ringPlays", fn := fun _ => fun
  | [d1, d2, d3] => { results := [.lit (.bool true)], args := [d1, d2, d3] }
  | _ => none }
def ringPlaysRow : OpenClaim := { program := "ytfkchmkaccjjoaa", sum := "b4410b1bec30b548428d7f856ae6070894372cf3ec8ae64944a61c103c841dc8", func := "colander/colanderlaw01.RingPlays", spec := "ringPlays", apart := false }
def RingPlaysSaid : Prop := ringPlaysRow.holds Try.pinned (OpenSpec.ofChange ringPlaysSpec)

/-- ITS FALSE NEIGHBOUR: 'it returns false'. Refute it at one input. -/
def ringPlaysWrong : ChangeSpec := { name := "ringPlays", fn := fun _ => fun
  | [d1, d2, d3] => { results := [.lit (.bool false)], args := [d1, d2, d3] }
  | _ => none }
def RingPlaysWrongFalsely : Prop := ringPlaysRow.holds Try.pinned (OpenSpec.ofChange ringPlaysWrong)

/-- 'colanderlaw22.ConnCarries': WHATEVER THE INPUT: true; the input reads as it did. -/
def connCarriesSpec : ChangeSpec := { name := "connCarries", fn := fun _ => fun
  | [d1, d2, d3, d4] => { results := [.lit (.bool true)], args := [d1, d2, d3, d4] }
  | _ => none }
def connCarriesRow : OpenClaim := { program := "ytfkchmkaccjjoaa", sum := "b4410b1bec30b548428d7f856ae6070894372cf3ec8ae64944a61c103c841dc8", func := "colander/colanderlaw22.ConnCarries", spec := "connCarries", apart := false }
def ConnCarriesSaid : Prop := connCarriesRow.holds Try.pinned (OpenSpec.ofChange connCarriesSpec)

/-- ITS FALSE NEIGHBOUR: 'it returns false'. Refute it at one input. -/
def connCarriesWrong : ChangeSpec := { name := "connCarries", fn := fun _ => fun
  | [d1, d2, d3, d4] => { results := [.lit (.bool false)], args := [d1, d2, d3, d4] }
  | _ => none }
def ConnCarriesWrongFalsely : Prop := connCarriesRow.holds Try.pinned (OpenSpec.ofChange connCarriesWrong)

/-- 'colanderlaw22.ConnEnds': WHATEVER THE INPUT: true; the input reads as it did. -/
def connEndsSpec : ChangeSpec := { name := "connEnds", fn := fun _ => fun
  | [d1, d2, d3, d4, d5] => { results := [.lit (.bool true)], args := [d1, d2, d3, d4, d5] }
  | _ => none }
def connEndsRow : OpenClaim := { program := "ytfkchmkaccjjoaa", sum := "b4410b1bec30b548428d7f856ae6070894372cf3ec8ae64944a61c103c841dc8", func := "colander/colanderlaw22.ConnEnds", spec := "connEnds", apart := false }
def ConnEndsSaid : Prop := connEndsRow.holds Try.pinned (OpenSpec.ofChange connEndsSpec)

/-- ITS FALSE NEIGHBOUR: 'it returns false'. Refute it at one input. -/
def connEndsWrong : ChangeSpec := { name := "connEnds", fn := fun _ => fun
  | [d1, d2, d3, d4, d5] => { results := [.lit (.bool false)], args := [d1, d2, d3, d4, d5] }
  | _ => none }
def ConnEndsWrongFalsely : Prop := connEndsRow.holds Try.pinned (OpenSpec.ofChange connEndsWrong)

/- THE SECOND FORM. 'bulk': how many values and letters a reading holds, each counted each time it is reached (what is shared counts as often as it is met; a slice's spare places count too). A statement '..UptoSaid' is the law's where the arguments, and the package variables that the reading takes, are together of bulk at most 1048576: NARROWER than '..Said'. Prove '..Said' where nothing that the law and all that it calls make is longer than what came in: it says more and counts as full. Else prove '..UptoSaid'. A law counts once. -/
mutual
def uptoBulk {H : Type} : DataW H → Nat
  | .lit (.string bytes) => bytes.length + 1
  | .lit _ => 1
  | .nil => 1
  | .ptr d => uptoBulk d + 1
  | .slice elems spare => uptoBulkAll elems + uptoBulkAll spare + 1
  | .agg parts => uptoBulkAll parts + 1
  | .iface _ d => uptoBulk d + 1
  | .map entries => uptoBulkEntries entries + 1
  | .held _ => 1
def uptoBulkAll {H : Type} : List (DataW H) → Nat
  | [] => 0
  | d :: r => uptoBulk d + uptoBulkAll r
def uptoBulkEntries {H : Type} : List (Lit × DataW H) → Nat
  | [] => 0
  | x :: r => uptoBulkEntry x + uptoBulkEntries r
def uptoBulkEntry {H : Type} : Lit × DataW H → Nat
  | (.string bytes, d) => bytes.length + uptoBulk d + 1
  | (_, d) => uptoBulk d + 1
 end
def uptoSmall : (H : Type) → List (DataW H) → Bool := fun _ ds => decide (uptoBulkAll ds ≤ 1048576)
def OpenSpec.upto (s : _root_.Go.ChangeSpec) : _root_.Go.OpenSpec := { _root_.Go.OpenSpec.ofChange s with cond := some uptoSmall }

/-- 'colanderlaw01.RingOrder', WHERE WHAT IT READS IS OF BULK AT MOST 1048576: true; the input reads as it did. -/
def ringOrderUptoRow : OpenClaim := { program := "ytfkchmkaccjjoaa", sum := "b4410b1bec30b548428d7f856ae6070894372cf3ec8ae64944a61c103c841dc8", func := "colander/colanderlaw01.RingOrder", spec := "ringOrder", apart := false, narrowed := true }
def RingOrderUptoSaid : Prop := ringOrderUptoRow.holds Try.pinned (OpenSpec.upto ringOrderSpec)

/-- 'colanderlaw01.RingPlays', WHERE WHAT IT READS IS OF BULK AT MOST 1048576: true; the input reads as it did. -/
def ringPlaysUptoRow : OpenClaim := { program := "ytfkchmkaccjjoaa", sum := "b4410b1bec30b548428d7f856ae6070894372cf3ec8ae64944a61c103c841dc8", func := "colander/colanderlaw01.RingPlays", spec := "ringPlays", apart := false, narrowed := true }
def RingPlaysUptoSaid : Prop := ringPlaysUptoRow.holds Try.pinned (OpenSpec.upto ringPlaysSpec)

/-- 'colanderlaw22.ConnCarries', WHERE WHAT IT READS IS OF BULK AT MOST 1048576: true; the input reads as it did. -/
def connCarriesUptoRow : OpenClaim := { program := "ytfkchmkaccjjoaa", sum := "b4410b1bec30b548428d7f856ae6070894372cf3ec8ae64944a61c103c841dc8", func := "colander/colanderlaw22.ConnCarries", spec := "connCarries", apart := false, narrowed := true }
def ConnCarriesUptoSaid : Prop := connCarriesUptoRow.holds Try.pinned (OpenSpec.upto connCarriesSpec)

/-- 'colanderlaw22.ConnEnds', WHERE WHAT IT READS IS OF BULK AT MOST 1048576: true; the input reads as it did. -/
def connEndsUptoRow : OpenClaim := { program := "ytfkchmkaccjjoaa", sum := "b4410b1bec30b548428d7f856ae6070894372cf3ec8ae64944a61c103c841dc8", func := "colander/colanderlaw22.ConnEnds", spec := "connEnds", apart := false, narrowed := true }
def ConnEndsUptoSaid : Prop := connEndsUptoRow.holds Try.pinned (OpenSpec.upto connEndsSpec)

end Rows
end Go.Proofs.Ytfkchmkaccjjoaa
