/- The listed variables: a world that holds them as their initialisers lay them, and what the rows' lists give. -/
import Derived.Test.YtapbfkofoamaaaaGreatDoorLb
import Derived.Test.YtapbfkofoamaaaaGreatDoorCards
import Derived.Test.YtapbfkofoamaaaaGreatDoorTie
import Derived.ProofKit
import Derived.OpenShut
import Derived.Deep.DeepHandedRow
import Derived.Deep.DeepWitnessRowRef
import Derived.Lib.LaidIn
import Derived.Lib.LaidU8
import Derived.Stop.LaidErr
import Derived.SizedLaws
import Derived.PinnedBridge
namespace Go.Proofs.YtapbfkofoamaaaaGreatDoor
open Go.ChangeShapes Go.WideShapes Go.ChangeAt Go.RowKit
set_option linter.unusedVariables false
set_option linter.unusedSimpArgs false

theorem own : ownKnob Tryz.prog.godebug = none := by kernel_rfl

def monthCells : List Int := [31, 28, 31, 30, 31, 30, 31, 31, 30, 31, 30, 31]
/-- The settled world with two blocks more (the two errors' structs), the listed variables holding what their initialisers lay. -/
noncomputable def laidWorld (os : Os) : World :=
  let N := (World.settled Tryz.prog os).heap.size
  let w0 := World.holding Tryz.prog os ⟨#[.cells #[.string ⟨#[118, 97, 108, 117, 101, 32, 111, 117, 116, 32, 111, 102, 32, 114, 97, 110, 103, 101]⟩] 288, .cells #[.string ⟨#[105, 110, 118, 97, 108, 105, 100, 32, 115, 121, 110, 116, 97, 120]⟩] 288], #[], []⟩
  let put (h : Array Obj) (g : Nat) (cs : Array Value) : Array Obj := h.modify g fun
    | .cells _ t frozen => .cells cs t frozen
    | o => o
  let tab (d : DataW Unit) : Array Value := match d with
    | .agg l => (l.map fun x => match x with | .lit (.int k z) => Value.int k z | _ => undef).toArray
    | _ => #[]
  let h0 := w0.heap
  let h0 := put h0 0 (monthCells.map fun z => Value.int .i64 z).toArray
  let h1 := put h0 7 (tab Rows.laid_math_bits_deBruijn32tab)
  let h2 := put h1 8 (tab Rows.laid_math_bits_deBruijn64tab)
  let h3 := put h2 2 (tab Rows.laid_internal_strconv_uint64pow10)
  let h4 := put h3 6 ((List.range 16).flatMap fun i => [Value.int .u8 (Lib.accLo i), Value.int .u8 (Lib.accHi i)]).toArray
  let h5 := put h4 4 #[.iface 286 (.pointer (some ⟨N, 0, none⟩))]
  let h6 := put h5 3 #[.iface 286 (.pointer (some ⟨N + 1, 0, none⟩))]
  let h7 := put h6 5 (Lib.firstTab.map fun z => Value.int .u8 z).toArray
  { w0 with heap := h7 }
noncomputable abbrev N0 : Nat := (World.settled Tryz.prog default).heap.size
end Go.Proofs.YtapbfkofoamaaaaGreatDoor
