/-
  DERIVED. GIVEN WITH THE SEED: THE CARDS: each row of YtapbfkofoamaaaaDoorRows.lean that lists a variable, with what it lists TIED to the program's text (the seventh form; the later family's looks); each row that meets fmt, with fmt's text TOLD by the authors' own Lean function (tested against real Go, not proved from fmt's source: count such statements apart). THE CARD IS WHAT COUNTS. Prove the row's statement (the work); the ties are given (YtapbfkofoamaaaaDoorTie.lean); close each card by the builder's one call (the guide's Derived/Test/ToyasCard.lean, 'card_holds'). Laid BY PROGRAM, IN A SANDBOX (cutbox-door.mjs). By AI agents, Wed Nov 11 2026. No macro, syntax, notation, axiom, sorry.
-/
import Derived.Test.YtapbfkofoamaaaaDoorRows
import GoSem.ClaimSeven
namespace Go.Proofs.YtapbfkofoamaaaaDoor
namespace Rows

/-- THE TIED CARD OF 'epactlaw25.IsoSame'. -/
def isoSameCard : Claim7 := { stood := { row := isoSameRow, standIns := [], harness := (true, "05e4a5dc51569edc14377900be6676f74c51dd9eb9f1a850ffecf3b71a90110e"), looks := true }, kinds := [], alts := [], laidByText := true, laidKinds := [.data, .data, .data, .data, .data, .sentinel, .sentinel, .pinned], laidTests := true, laidLooks := .later }
def IsoSameCardSaid : Prop := Claim7.holds Tryd.pinned (.plain (OpenSpec.ofChange isoSameSpec)) isoSameCard

/-- THE SECOND FORM's CARD OF 'epactlaw25.IsoSame'. -/
def isoSameUptoCard : Claim7 := { stood := { row := isoSameUptoRow, standIns := [], harness := (true, "05e4a5dc51569edc14377900be6676f74c51dd9eb9f1a850ffecf3b71a90110e"), looks := true }, kinds := [], alts := [], laidByText := true, laidKinds := [.data, .data, .data, .data, .data, .sentinel, .sentinel, .pinned], laidTests := true, laidLooks := .later }
def IsoSameUptoCardSaid : Prop := Claim7.holds Tryd.pinned (.plain (OpenSpec.upto isoSameSpec)) isoSameUptoCard
end Rows
end Go.Proofs.YtapbfkofoamaaaaDoor
