/- Calls into Go's library: what they come to, in short. -/
import Derived.Test.YtapbfkofoamaaaaGreatDoorBase
import Derived.Test.YtapbfkofoamaaaaGreatDoorShelf
import Derived.Lib.AppendIntMem
import Derived.Lib.UnsafeStr
import Derived.Lib.ItoaLen
import Derived.Shelf.Strings.SlTrimAscii
namespace Go.Proofs.YtapbfkofoamaaaaGreatDoor
open Go.RowKit
set_option linter.unusedVariables false
set_option linter.unusedSimpArgs false

/-- The table of powers of ten. -/
def TabPow (w : World) : Prop := Lib.TabIs Tryz.prog w "internal/strconv.uint64pow10" .u64 Lib.pow10Tab
theorem gPow : Tryz.prog.globalNamed "internal/strconv.uint64pow10" = some 2 := by kernel_rfl
theorem below_pow {w w' : World} (h : TabPow w) (hb : Below w.heap.size w w') : TabPow w' := var?_below hb gPow (World.block_lt_of_cell? w ⟨_, 0, none⟩ (h.cell gPow 0 (by decide))) h

def str (l : List UInt8) : ByteArray := ⟨l.toArray⟩

theorem itoa_any (n : Int) (h0 : -9223372036854775808 ≤ n) (h1 : n ≤ 9223372036854775807) (w : World) (hT : TabPow w) :
    Calls Tryz.prog 77 #[.int .i64 n] w fun e w' => e = .returned (.string ⟨(Lib.itoa n).toArray⟩) ∧ Below w.heap.size w w' :=
  (Tryz.strconv_Itoa n h0 h1 w hT).mono fun _ _ h => ⟨h.1, by obtain ⟨k, os, hh⟩ := h.2; rw [hh]; exact Go.Lib.below_grow _ _ (Nat.le_refl _) _ _⟩
theorem ret_str {a b : List UInt8} (h : a = b) : Ending.returned (.string ⟨a.toArray⟩) = .returned (.string ⟨b.toArray⟩) := by rw [h]
theorem repeat_any (l : List UInt8) (c : Nat) (w : World) (hc : c ≤ 1000000000) (hl : l.length * c ≤ 140737488355328) :
    Calls Tryz.prog 78 #[.string ⟨l.toArray⟩, .int .i64 c] w fun e w' => e = .returned (.string ⟨(Lib.repeatL l c).toArray⟩) ∧ Below w.heap.size w w' := by
  have := Tryz.strings_Repeat ⟨l.toArray⟩ c w (by omega) (by simpa [ByteArray.size] using hl)
  simpa using this
theorem trimR_any (l : List UInt8) (c : UInt8) (hc : c.toNat < 128) (w : World) (hl : l.length ≤ 1000000000) :
    Calls Tryz.prog 79 #[.string ⟨l.toArray⟩, .string ⟨#[c]⟩] w fun e w' => e = .returned (.string ⟨(Lib.trimRightB l c).toArray⟩) ∧ w = w' :=
  (Tryz.strings_TrimRight_one ⟨l.toArray⟩ c hc w (by simp [ByteArray.size]; omega)).mono fun _ _ h => ⟨by simpa using h.1, h.2.symm⟩
/-- strings.Join of a row of strings. -/
theorem join_any (b o c n : Nat) (xs : List (List UInt8)) (sep : List UInt8) (w : World) (hn : n = xs.length) (hcells : ∀ (j : Nat) x, xs[j]? = some x → w.cell? ⟨b, o + j, none⟩ = some (.string ⟨x.toArray⟩))
    (hbk : b < w.heap.size) (hN : xs.length ≤ 1000000000) (hcap : n ≤ c) (hlen : (Lib.join xs sep).length ≤ 140737488355328) :
    Calls Tryz.prog 43 #[.slice (some ⟨b, o, none⟩) n c, .string ⟨sep.toArray⟩] w fun e w' => e = .returned (.string ⟨(Lib.join xs sep).toArray⟩) ∧ Below w.heap.size w w' := by
  subst hn
  have e1 : (xs.map fun x => (⟨x.toArray⟩ : ByteArray)).map (·.data.toList) = xs := by rw [List.map_map]; exact List.map_id'' (fun _ => rfl) xs
  have := Tryz.strings_Join b o c (xs.map fun x => ⟨x.toArray⟩) ⟨sep.toArray⟩ w
    (fun j x h => by
      rw [List.getElem?_map] at h
      obtain ⟨y, hy, rfl⟩ := Option.map_eq_some_iff.1 h
      exact hcells j y hy) hbk (by simp; omega) (by simpa using hcap) (by rw [e1]; exact hlen)
  rw [e1, List.length_map] at this
  exact this
theorem join_flat (xs : List (List UInt8)) : Lib.join xs [] = xs.flatten := by
  unfold Lib.join
  induction xs with
  | nil => rfl
  | cons x r ih => cases r with
    | nil => simp
    | cons y r => simp [List.intercalate, List.intersperse] at ih ⊢; exact ih
theorem atoi_any (s : ByteArray) (n : Int) (hl : s.size ≤ 18) (h : Lib.atoi s.data.toList = some n) (w : World) :
    Calls Tryz.prog 147 #[.string s] w fun e w' => e = .returned (.tuple #[.int .i64 n, .nilIface]) ∧ Below w.heap.size w w' :=
  (Tryz.strconv_Atoi s n hl h w).mono fun _ _ h => ⟨h.1, by obtain ⟨t, hh⟩ := h.2; rw [hh]; exact Lib.below_freeze ((Below.refl _ _).drew.alloc (Nat.le_refl _) _) (Nat.le_refl _) _⟩
theorem trimL_any (s : ByteArray) (cs : List UInt8) (hc : cs.length ≤ 100) (ha : cs.all (fun b => decide (b.toNat < 128)) = true) (w : World) :
    Calls Tryz.prog 167 #[.string s, .string ⟨cs.toArray⟩] w fun e w' => e = .returned (.string ⟨(Lib.trimLeftS s.data.toList cs).toArray⟩) ∧ Below w.heap.size w w' :=
  Any.strings_TrimLeft_laid Tryz.lays161 (by kernel_rfl) s ⟨cs.toArray⟩ w (by simp [ByteArray.size]; omega) (fun j b h => by
    have : b ∈ cs := List.mem_of_getElem? (by simpa using h)
    simpa using List.all_eq_true.1 ha b this)
theorem cutP_any (s : ByteArray) (p : List UInt8) (w : World) :
    Calls Tryz.prog 101 #[.string s, .string ⟨p.toArray⟩] w fun e w' => e = .returned (.tuple #[.string ⟨(Lib.trimPrefix s.data.toList p).toArray⟩, .bool (Lib.hasPrefix s.data.toList p)]) ∧ w = w' :=
  (Tryz.strings_CutPrefix s ⟨p.toArray⟩ w).mono fun _ _ h => ⟨by simpa using h.1, h.2.symm⟩
theorem cutS_any (s : ByteArray) (p : List UInt8) (w : World) (hs : s.size ≤ 9223372036854775807) :
    Calls Tryz.prog 125 #[.string s, .string ⟨p.toArray⟩] w fun e w' => e = .returned (.tuple #[.string ⟨(Lib.trimSuffix s.data.toList p).toArray⟩, .bool (Lib.hasSuffix s.data.toList p)]) ∧ w = w' :=
  (Tryz.strings_CutSuffix s ⟨p.toArray⟩ w hs).mono fun _ _ h => ⟨by simpa using h.1, h.2.symm⟩
theorem indexB_any (s : ByteArray) (c : Int) (w : World) :
    Calls Tryz.prog 126 #[.string s, .int .u8 c] w fun e w' => e = .returned (.int .i64 (Lib.indexByte s.data.toList c.toNat.toUInt8)) ∧ w = w' :=
  (Tryz.strings_IndexByte s c w).mono fun _ _ h => ⟨h.1, h.2.symm⟩
end Go.Proofs.YtapbfkofoamaaaaGreatDoor
