/- The imports of all walks, and small words that they share. -/
import Derived.Test.YtapbfkofoamaaaaGreatDoorProg
import Derived.Below
import Derived.Deep.Draws
import Derived.Deep.AppendLies
import Derived.OwnWalk
import Derived.Laws.BytesArg
import Derived.Laws.MakeOwn
import Derived.Laws.OwnMore
import Derived.Deep.OwnRows
import Derived.Tactics
import Derived.Lib.ConvBytes
import Derived.Laws.Slices
import Derived.WalkKit
import Derived.KernelRfl
import Derived.RowKit3
import Derived.Deep.LoopGhost
import Derived.Deep.QuietTactic
import Derived.BigQuiet
import Derived.WideLaws
import Derived.Deep.DeepCutAuto
import Derived.Deep.CutBlock
import Derived.Deep.RegionHeld3
import Derived.Laws.Rows
import Derived.Lib.AppendStr
import Derived.Laws.IdiomCopy
import Derived.OrdersHeld
import Derived.Laws.BitsLemmas
import Derived.WalkSpells
import Derived.WalkLawsBesides
import Derived.Handy
import Derived.Lib.LaidTab
import Derived.Lib.Hide
import Derived.Lib.QuietBelow
import Derived.StillTailTactics
namespace Go.Proofs.YtapbfkofoamaaaaGreatDoor
open Go.RowKit

theorem ret_bool {a b : Bool} (h : a = b) : Ending.returned (.bool a) = .returned (.bool b) := by rw [h]
theorem ret_int {k : IntKind} {a b : Int} (h : a = b) : Ending.returned (.int k a) = .returned (.int k b) := by rw [h]
theorem ret_iii {a b c a' b' c' : Int} (h1 : a = a') (h2 : b = b') (h3 : c = c') : Ending.returned (.tuple #[.int .i64 a, .int .i64 b, .int .i64 c]) = .returned (.tuple #[.int .i64 a', .int .i64 b', .int .i64 c']) := by rw [h1, h2, h3]

/-- Behind a parameter's box. -/
theorem below_box {w w1 : World} {o : Obj} (h : Below (w.alloc o).heap.size (w.alloc o) w1) : Below w.heap.size w w1 := ((Below.refl _ _).alloc (Nat.le_refl _) _).trans (h.mono (by simp))
theorem below_cell {w w1 : World} {b o : Nat} {v : Value} {B : Nat} (h : Below B w w1) (hb : b < B) (hc : w.cell? ⟨b, o, none⟩ = some v) : w1.cell? ⟨b, o, none⟩ = some v := (h.cell (p := ⟨b, o, none⟩) hb).trans hc
theorem below_next {w w1 w2 : World} (h : Below w.heap.size w w1) (h2 : Below w1.heap.size w1 w2) : Below w.heap.size w w2 := h.trans (h2.mono h.size)
theorem below_more {w w' : World} {o : Obj} (h : Below w.heap.size w w') : Below w.heap.size w (w'.alloc o) := h.alloc h.size o
/-- A new block's cells, told by a list. -/
theorem new_row {w : World} {cs : Array Value} {t : TypeId} {α : Type} (f : α → Value) (xs : List α) (h : cs = (xs.map f).toArray) (j : Nat) (x : α) (hx : xs[j]? = some x) : (w.alloc (.cells cs t)).cell? ⟨w.heap.size, 0 + j, none⟩ = some (f x) := by
  rw [Nat.zero_add, World.cell?_alloc_new, h]
  simp [hx]
theorem grown_of_below {w w' : World} (h : Below w.heap.size w w') : w.grownBy w' none := ⟨h.os, h.tape, h.output, h.size, fun k hk _ => h.block k hk⟩
/-- A row of the call's own, behind a callee that keeps what was there. -/
theorem own_below {w w' : World} {base : Nat} {e : TypeId} {size : Nat} {v : Value} {n : Nat} {xs : List Value} (h : w.ownsRow base e size v n xs) (hb : Below w.heap.size w w') : w'.ownsRow base e size v n xs :=
  h.kept (grown_of_below hb) (by by_cases k : v.ownBlock = none; exact Or.inl k; exact Or.inr k)
/-- An append to a row of the call's own. -/
theorem below_own {w0 w w' : World} {B : Nat} {base : Nat} {e : TypeId} {size : Nat} {v : Value} {n : Nat} {xs : List Value} (h : Below B w0 w) (own : w.ownsRow base e size v n xs) (hg : w.grownBy w' v.ownBlock) (hB : B ≤ base) (hw : B ≤ w.heap.size) : Below B w0 w' :=
  h.grown hg hw fun k hk => Nat.le_trans hB (own.lt k hk).1
theorem below_two {B : Nat} {w w1 w2 w3 : World} (h : Below B w w1) (h1 : Below w1.heap.size w1 w2) (h2 : Below w2.heap.size w2 w3) (hB : B ≤ w1.heap.size) : Below B w w3 :=
  (h.trans (h1.mono hB)).trans (h2.mono (Nat.le_trans hB h1.size))
theorem blk_cell {w : World} {b : Nat} {cs : Array Value} {t : TypeId} (h : w.heap[b]? = some (.cells cs t (0, 0))) (o : Nat) : w.cell? ⟨b, o, none⟩ = cs[o]? := by simp [World.cell?, h]
theorem blk_free {w : World} {b : Nat} {cs : Array Value} {t : TypeId} (h : w.heap[b]? = some (.cells cs t (0, 0))) (o : Nat) : w.frozen? ⟨b, o, none⟩ = false := by simp [World.frozen?, h]
theorem win_int {a b : Int} (h : a = b) (k : IntKind) : Value.int k a = .int k b := by rw [h]
theorem flipW {P : Program} {f : FuncId} {args : Array Value} {w : World} {v : Ending} (c : Calls P f args w fun e w' => e = v ∧ w = w') : Calls P f args w fun e w' => e = v ∧ w' = w := c.mono fun _ _ h => ⟨h.1, h.2.symm⟩
theorem bcell {W w1 : World} (hb : Below W.heap.size W w1) : (∀ b o, b < W.heap.size → w1.cell? ⟨b, o, none⟩ = W.cell? ⟨b, o, none⟩) ∧ (∀ b o, b < W.heap.size → w1.frozen? ⟨b, o, none⟩ = W.frozen? ⟨b, o, none⟩) :=
  ⟨fun b o h => hb.cell (p := ⟨b, o, none⟩) h, fun b o h => hb.frozen (p := ⟨b, o, none⟩) h⟩
end Go.Proofs.YtapbfkofoamaaaaGreatDoor
