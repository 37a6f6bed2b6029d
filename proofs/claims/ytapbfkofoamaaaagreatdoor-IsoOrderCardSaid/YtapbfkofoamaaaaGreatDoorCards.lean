/-
  DERIVED. GIVEN WITH THE SEED: THE CARDS: each row of YtapbfkofoamaaaaGreatDoorRows.lean that lists a variable, with what it lists TIED to the program's text (the seventh form; the later family's looks); each row that meets fmt, with fmt's text TOLD by the authors' own Lean function (tested against real Go, not proved from fmt's source: count such statements apart). THE CARD IS WHAT COUNTS. Prove the row's statement (the work); the ties are given (YtapbfkofoamaaaaGreatDoorTie.lean); close each card by the builder's one call (the guide's Derived/Test/ToyasCard.lean, 'card_holds'). Laid BY PROGRAM, IN A SANDBOX (cutbox-door.mjs). By AI agents, Wed Nov 11 2026. No macro, syntax, notation, axiom, sorry.
-/
import Derived.Test.YtapbfkofoamaaaaGreatDoorRows
import GoSem.ClaimSeven
namespace Go.Proofs.YtapbfkofoamaaaaGreatDoor
namespace Rows

/-- THE TIED CARD OF 'epactlaw25.IsoOrder'. -/
def isoOrderCard : Claim7 := { stood := { row := isoOrderRow, standIns := [], harness := (true, "11fd15c552754526edd989aedf38d1776a527dfb0229b590627cee5d938b77f6"), looks := true }, kinds := [], alts := [], laidByText := true, laidKinds := [.data, .data, .data, .data, .data, .sentinel, .sentinel, .pinned], laidTests := true, laidLooks := .later }
def IsoOrderCardSaid : Prop := Claim7.holds Tryz.pinned (.plain (OpenSpec.ofChange isoOrderSpec)) isoOrderCard

/-- THE TIED CARD OF 'epactlaw11.ListChecks'. -/
def listChecksCard : Claim7 := { stood := { row := listChecksRow, standIns := [], harness := (true, "11fd15c552754526edd989aedf38d1776a527dfb0229b590627cee5d938b77f6"), looks := true }, kinds := [], alts := [], laidByText := true, laidKinds := [.data, .data, .data, .data, .sentinel, .sentinel, .pinned], laidTests := true, laidLooks := .later }
def ListChecksCardSaid : Prop := Claim7.holds Tryz.pinned (.plain (OpenSpec.ofChange listChecksSpec)) listChecksCard

/-- THE TIED CARD OF 'epactlaw11.ListPrints'. -/
def listPrintsCard : Claim7 := { stood := { row := listPrintsRow, standIns := [], harness := (true, "11fd15c552754526edd989aedf38d1776a527dfb0229b590627cee5d938b77f6"), looks := true }, kinds := [], alts := [], laidByText := true, laidKinds := [.data, .data, .data, .data, .sentinel, .sentinel, .pinned], laidTests := true, laidLooks := .later }
def ListPrintsCardSaid : Prop := Claim7.holds Tryz.pinned (.plain (OpenSpec.ofChange listPrintsSpec)) listPrintsCard

/-- THE TIED CARD OF 'epactlaw11.ListParses'. -/
def listParsesCard : Claim7 := { stood := { row := listParsesRow, standIns := [], harness := (true, "11fd15c552754526edd989aedf38d1776a527dfb0229b590627cee5d938b77f6"), looks := true }, kinds := [], alts := [], laidByText := true, laidKinds := [.data, .data, .data, .data, .sentinel, .sentinel, .pinned], laidTests := true, laidLooks := .later }
def ListParsesCardSaid : Prop := Claim7.holds Tryz.pinned (.plain (OpenSpec.ofChange listParsesSpec)) listParsesCard

/-- THE TIED CARD OF 'epactlaw11.ListTurned'. -/
def listTurnedCard : Claim7 := { stood := { row := listTurnedRow, standIns := [], harness := (true, "11fd15c552754526edd989aedf38d1776a527dfb0229b590627cee5d938b77f6"), looks := true }, kinds := [], alts := [], laidByText := true, laidKinds := [.data, .data, .data, .data, .sentinel, .sentinel, .pinned], laidTests := true, laidLooks := .later }
def ListTurnedCardSaid : Prop := Claim7.holds Tryz.pinned (.plain (OpenSpec.ofChange listTurnedSpec)) listTurnedCard

/-- THE TIED CARD OF 'epactlaw11.ListNotes'. -/
def listNotesCard : Claim7 := { stood := { row := listNotesRow, standIns := [], harness := (true, "11fd15c552754526edd989aedf38d1776a527dfb0229b590627cee5d938b77f6"), looks := true }, kinds := [], alts := [], laidByText := true, laidKinds := [.data, .data, .data, .data, .sentinel, .sentinel, .pinned], laidTests := true, laidLooks := .later }
def ListNotesCardSaid : Prop := Claim7.holds Tryz.pinned (.plain (OpenSpec.ofChange listNotesSpec)) listNotesCard

/-- THE TIED CARD OF 'epactlaw11.ListTwice'. -/
def listTwiceCard : Claim7 := { stood := { row := listTwiceRow, standIns := [], harness := (true, "11fd15c552754526edd989aedf38d1776a527dfb0229b590627cee5d938b77f6"), looks := true }, kinds := [], alts := [], laidByText := true, laidKinds := [.data, .data, .data, .data, .sentinel, .sentinel, .pinned], laidTests := true, laidLooks := .later }
def ListTwiceCardSaid : Prop := Claim7.holds Tryz.pinned (.plain (OpenSpec.ofChange listTwiceSpec)) listTwiceCard

/-- THE TIED CARD OF 'epactlaw29.ScriptPrints'. -/
def scriptPrintsCard : Claim7 := { stood := { row := scriptPrintsRow, standIns := [], harness := (true, "11fd15c552754526edd989aedf38d1776a527dfb0229b590627cee5d938b77f6"), looks := true }, kinds := [], alts := [], laidByText := true, laidKinds := [.data, .data, .data, .data, .sentinel, .sentinel, .pinned], laidTests := true, laidLooks := .later }
def ScriptPrintsCardSaid : Prop := Claim7.holds Tryz.pinned (.plain (OpenSpec.ofChange scriptPrintsSpec)) scriptPrintsCard

/-- THE TIED CARD OF 'epactlaw29.ScriptReads'. -/
def scriptReadsCard : Claim7 := { stood := { row := scriptReadsRow, standIns := [], harness := (true, "11fd15c552754526edd989aedf38d1776a527dfb0229b590627cee5d938b77f6"), looks := true }, kinds := [], alts := [], laidByText := true, laidKinds := [.data, .data, .data, .data, .sentinel, .sentinel, .pinned], laidTests := true, laidLooks := .later }
def ScriptReadsCardSaid : Prop := Claim7.holds Tryz.pinned (.plain (OpenSpec.ofChange scriptReadsSpec)) scriptReadsCard

/-- THE TIED CARD OF 'epactlaw29.ScriptOne'. -/
def scriptOneCard : Claim7 := { stood := { row := scriptOneRow, standIns := [], harness := (true, "11fd15c552754526edd989aedf38d1776a527dfb0229b590627cee5d938b77f6"), looks := true }, kinds := [], alts := [], laidByText := true, laidKinds := [.data, .data, .data, .data, .sentinel, .sentinel, .pinned], laidTests := true, laidLooks := .later }
def ScriptOneCardSaid : Prop := Claim7.holds Tryz.pinned (.plain (OpenSpec.ofChange scriptOneSpec)) scriptOneCard

/-- THE TIED CARD OF 'epactlaw29.ScriptLine'. -/
def scriptLineCard : Claim7 := { stood := { row := scriptLineRow, standIns := [], harness := (true, "11fd15c552754526edd989aedf38d1776a527dfb0229b590627cee5d938b77f6"), looks := true }, kinds := [], alts := [], laidByText := true, laidKinds := [.data, .data, .data, .data, .sentinel, .sentinel, .pinned], laidTests := true, laidLooks := .later }
def ScriptLineCardSaid : Prop := Claim7.holds Tryz.pinned (.plain (OpenSpec.ofChange scriptLineSpec)) scriptLineCard

/-- THE TIED CARD OF 'epactlaw29.ScriptHex'. -/
def scriptHexCard : Claim7 := { stood := { row := scriptHexRow, standIns := [], harness := (true, "11fd15c552754526edd989aedf38d1776a527dfb0229b590627cee5d938b77f6"), looks := true }, kinds := [], alts := [], laidByText := true, laidKinds := [.data, .data, .data, .data, .sentinel, .sentinel, .pinned], laidTests := true, laidLooks := .later }
def ScriptHexCardSaid : Prop := Claim7.holds Tryz.pinned (.plain (OpenSpec.ofChange scriptHexSpec)) scriptHexCard

/-- THE SECOND FORM's CARD OF 'epactlaw25.IsoOrder'. -/
def isoOrderUptoCard : Claim7 := { stood := { row := isoOrderUptoRow, standIns := [], harness := (true, "11fd15c552754526edd989aedf38d1776a527dfb0229b590627cee5d938b77f6"), looks := true }, kinds := [], alts := [], laidByText := true, laidKinds := [.data, .data, .data, .data, .data, .sentinel, .sentinel, .pinned], laidTests := true, laidLooks := .later }
def IsoOrderUptoCardSaid : Prop := Claim7.holds Tryz.pinned (.plain (OpenSpec.upto isoOrderSpec)) isoOrderUptoCard

/-- THE SECOND FORM's CARD OF 'epactlaw11.ListChecks'. -/
def listChecksUptoCard : Claim7 := { stood := { row := listChecksUptoRow, standIns := [], harness := (true, "11fd15c552754526edd989aedf38d1776a527dfb0229b590627cee5d938b77f6"), looks := true }, kinds := [], alts := [], laidByText := true, laidKinds := [.data, .data, .data, .data, .sentinel, .sentinel, .pinned], laidTests := true, laidLooks := .later }
def ListChecksUptoCardSaid : Prop := Claim7.holds Tryz.pinned (.plain (OpenSpec.upto listChecksSpec)) listChecksUptoCard

/-- THE SECOND FORM's CARD OF 'epactlaw11.ListPrints'. -/
def listPrintsUptoCard : Claim7 := { stood := { row := listPrintsUptoRow, standIns := [], harness := (true, "11fd15c552754526edd989aedf38d1776a527dfb0229b590627cee5d938b77f6"), looks := true }, kinds := [], alts := [], laidByText := true, laidKinds := [.data, .data, .data, .data, .sentinel, .sentinel, .pinned], laidTests := true, laidLooks := .later }
def ListPrintsUptoCardSaid : Prop := Claim7.holds Tryz.pinned (.plain (OpenSpec.upto listPrintsSpec)) listPrintsUptoCard

/-- THE SECOND FORM's CARD OF 'epactlaw11.ListParses'. -/
def listParsesUptoCard : Claim7 := { stood := { row := listParsesUptoRow, standIns := [], harness := (true, "11fd15c552754526edd989aedf38d1776a527dfb0229b590627cee5d938b77f6"), looks := true }, kinds := [], alts := [], laidByText := true, laidKinds := [.data, .data, .data, .data, .sentinel, .sentinel, .pinned], laidTests := true, laidLooks := .later }
def ListParsesUptoCardSaid : Prop := Claim7.holds Tryz.pinned (.plain (OpenSpec.upto listParsesSpec)) listParsesUptoCard

/-- THE SECOND FORM's CARD OF 'epactlaw11.ListTurned'. -/
def listTurnedUptoCard : Claim7 := { stood := { row := listTurnedUptoRow, standIns := [], harness := (true, "11fd15c552754526edd989aedf38d1776a527dfb0229b590627cee5d938b77f6"), looks := true }, kinds := [], alts := [], laidByText := true, laidKinds := [.data, .data, .data, .data, .sentinel, .sentinel, .pinned], laidTests := true, laidLooks := .later }
def ListTurnedUptoCardSaid : Prop := Claim7.holds Tryz.pinned (.plain (OpenSpec.upto listTurnedSpec)) listTurnedUptoCard

/-- THE SECOND FORM's CARD OF 'epactlaw11.ListNotes'. -/
def listNotesUptoCard : Claim7 := { stood := { row := listNotesUptoRow, standIns := [], harness := (true, "11fd15c552754526edd989aedf38d1776a527dfb0229b590627cee5d938b77f6"), looks := true }, kinds := [], alts := [], laidByText := true, laidKinds := [.data, .data, .data, .data, .sentinel, .sentinel, .pinned], laidTests := true, laidLooks := .later }
def ListNotesUptoCardSaid : Prop := Claim7.holds Tryz.pinned (.plain (OpenSpec.upto listNotesSpec)) listNotesUptoCard

/-- THE SECOND FORM's CARD OF 'epactlaw11.ListTwice'. -/
def listTwiceUptoCard : Claim7 := { stood := { row := listTwiceUptoRow, standIns := [], harness := (true, "11fd15c552754526edd989aedf38d1776a527dfb0229b590627cee5d938b77f6"), looks := true }, kinds := [], alts := [], laidByText := true, laidKinds := [.data, .data, .data, .data, .sentinel, .sentinel, .pinned], laidTests := true, laidLooks := .later }
def ListTwiceUptoCardSaid : Prop := Claim7.holds Tryz.pinned (.plain (OpenSpec.upto listTwiceSpec)) listTwiceUptoCard

/-- THE SECOND FORM's CARD OF 'epactlaw29.ScriptPrints'. -/
def scriptPrintsUptoCard : Claim7 := { stood := { row := scriptPrintsUptoRow, standIns := [], harness := (true, "11fd15c552754526edd989aedf38d1776a527dfb0229b590627cee5d938b77f6"), looks := true }, kinds := [], alts := [], laidByText := true, laidKinds := [.data, .data, .data, .data, .sentinel, .sentinel, .pinned], laidTests := true, laidLooks := .later }
def ScriptPrintsUptoCardSaid : Prop := Claim7.holds Tryz.pinned (.plain (OpenSpec.upto scriptPrintsSpec)) scriptPrintsUptoCard

/-- THE SECOND FORM's CARD OF 'epactlaw29.ScriptReads'. -/
def scriptReadsUptoCard : Claim7 := { stood := { row := scriptReadsUptoRow, standIns := [], harness := (true, "11fd15c552754526edd989aedf38d1776a527dfb0229b590627cee5d938b77f6"), looks := true }, kinds := [], alts := [], laidByText := true, laidKinds := [.data, .data, .data, .data, .sentinel, .sentinel, .pinned], laidTests := true, laidLooks := .later }
def ScriptReadsUptoCardSaid : Prop := Claim7.holds Tryz.pinned (.plain (OpenSpec.upto scriptReadsSpec)) scriptReadsUptoCard

/-- THE SECOND FORM's CARD OF 'epactlaw29.ScriptOne'. -/
def scriptOneUptoCard : Claim7 := { stood := { row := scriptOneUptoRow, standIns := [], harness := (true, "11fd15c552754526edd989aedf38d1776a527dfb0229b590627cee5d938b77f6"), looks := true }, kinds := [], alts := [], laidByText := true, laidKinds := [.data, .data, .data, .data, .sentinel, .sentinel, .pinned], laidTests := true, laidLooks := .later }
def ScriptOneUptoCardSaid : Prop := Claim7.holds Tryz.pinned (.plain (OpenSpec.upto scriptOneSpec)) scriptOneUptoCard

/-- THE SECOND FORM's CARD OF 'epactlaw29.ScriptLine'. -/
def scriptLineUptoCard : Claim7 := { stood := { row := scriptLineUptoRow, standIns := [], harness := (true, "11fd15c552754526edd989aedf38d1776a527dfb0229b590627cee5d938b77f6"), looks := true }, kinds := [], alts := [], laidByText := true, laidKinds := [.data, .data, .data, .data, .sentinel, .sentinel, .pinned], laidTests := true, laidLooks := .later }
def ScriptLineUptoCardSaid : Prop := Claim7.holds Tryz.pinned (.plain (OpenSpec.upto scriptLineSpec)) scriptLineUptoCard

/-- THE SECOND FORM's CARD OF 'epactlaw29.ScriptHex'. -/
def scriptHexUptoCard : Claim7 := { stood := { row := scriptHexUptoRow, standIns := [], harness := (true, "11fd15c552754526edd989aedf38d1776a527dfb0229b590627cee5d938b77f6"), looks := true }, kinds := [], alts := [], laidByText := true, laidKinds := [.data, .data, .data, .data, .sentinel, .sentinel, .pinned], laidTests := true, laidLooks := .later }
def ScriptHexUptoCardSaid : Prop := Claim7.holds Tryz.pinned (.plain (OpenSpec.upto scriptHexSpec)) scriptHexUptoCard
end Rows
end Go.Proofs.YtapbfkofoamaaaaGreatDoor
