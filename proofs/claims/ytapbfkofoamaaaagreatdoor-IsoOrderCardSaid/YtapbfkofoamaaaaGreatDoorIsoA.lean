/- What epactlaw25.answers comes to, . -/
import Derived.Test.YtapbfkofoamaaaaGreatDoorIsoW5
import Derived.Test.YtapbfkofoamaaaaGreatDoorIsoQ
namespace Go.Proofs.YtapbfkofoamaaaaGreatDoor
open Go.RowKit
set_option linter.unusedVariables false
set_option linter.unusedSimpArgs false

theorem ans1 : printL 57753 86400 500000000000000000 = [50, 48, 49, 54, 45, 49, 50, 45, 51, 49, 84, 50, 51, 58, 53, 57, 58, 54, 48, 46, 53, 90] ∧ printE 57753 86400 500000000000000000 = 0 := by decide +kernel
theorem ans2 : parseE [50, 48, 49, 54, 45, 49, 50, 45, 51, 49, 84, 50, 51, 58, 53, 57, 58, 54, 48, 46, 53, 90] = 0 ∧ parseD [50, 48, 49, 54, 45, 49, 50, 45, 51, 49, 84, 50, 51, 58, 53, 57, 58, 54, 48, 46, 53, 90] = 57753 ∧ parseS [50, 48, 49, 54, 45, 49, 50, 45, 51, 49, 84, 50, 51, 58, 53, 57, 58, 54, 48, 46, 53, 90] = 86400 ∧ parseA [50, 48, 49, 54, 45, 49, 50, 45, 51, 49, 84, 50, 51, 58, 53, 57, 58, 54, 48, 46, 53, 90] = 500000000000000000 := by decide +kernel
theorem ans3 : parseE [50, 48, 49, 54, 45, 48, 50, 45, 51, 48, 84, 48, 48, 58, 48, 48, 58, 48, 48, 90] = 5 := by decide +kernel

theorem parse_list (l : List UInt8) (w : World) (hs : l.length ≤ 140737488355328) (hT : TabPow w) (hL : TabLen w) :
    Calls Tryz.prog 44 #[.string ⟨l.toArray⟩] w fun e w' => e = .returned (.tuple #[.agg #[.int .i64 (parseD l), .int .i64 (parseS l), .int .i64 (parseA l)], .int .i64 (parseE l)]) ∧ Below w.heap.size w w' := by
  have := parse_any ⟨l.toArray⟩ w (by simpa [ByteArray.size] using hs) hT hL
  simpa using this
def text1 : List UInt8 := [50, 48, 49, 54, 45, 49, 50, 45, 51, 49, 84, 50, 51, 58, 53, 57, 58, 54, 48, 46, 53, 90]
def text3 : List UInt8 := [50, 48, 49, 54, 45, 48, 50, 45, 51, 48, 84, 48, 48, 58, 48, 48, 58, 48, 48, 90]

set_option maxRecDepth 100000 in
set_option maxHeartbeats 4000000 in
theorem answers25_any (w : World) (hT : TabPow w) (hL : TabLen w) :
    Calls Tryz.prog 16 #[] w fun e w' => e = .returned (.bool true) ∧ Below w.heap.size w w' := by
  have HT := Lib.hid hT
  have HL := Lib.hid hL
  clear hT hL
  go_enter Tryz.func16, Tryz.ntmps16
  go_wp2_with fail
  refine (print_any _ _ _ _ (below_pow HT.out (by go_grown))).mono ?_
  rintro e w1 ⟨rfl, hb1⟩
  rw [ans1.1, ans1.2]
  have hz1 : w.heap.size < w1.heap.size := by have := hb1.size; simp at this; omega
  have hbw1 := below_box hb1
  obtain ⟨hc1, hf1⟩ := bcell hb1
  go_wp2_with fail
  refine (parse_list [50, 48, 49, 54, 45, 49, 50, 45, 51, 49, 84, 50, 51, 58, 53, 57, 58, 54, 48, 46, 53, 90] _ (by decide) (below_pow HT.out hbw1) (below_tab HL.out hbw1)).mono ?_
  rintro e w2 ⟨rfl, hb2⟩
  rw [ans2.1, ans2.2.1, ans2.2.2.1, ans2.2.2.2]
  have hbw2 := hbw1.trans (hb2.mono hbw1.size)
  have d0 : w2.cell? ⟨w.heap.size, 0, none⟩ = some (.int .i64 57753) := below_cell hb2 hz1 (below_cell hb1 (by simp) (by go_simp))
  have d1 : w2.cell? ⟨w.heap.size, 1, none⟩ = some (.int .i64 86400) := below_cell hb2 hz1 (below_cell hb1 (by simp) (by go_simp))
  have d2 : w2.cell? ⟨w.heap.size, 2, none⟩ = some (.int .i64 500000000000000000) := below_cell hb2 hz1 (below_cell hb1 (by simp) (by go_simp))
  have hz2 : w.heap.size < w2.heap.size := Nat.lt_of_lt_of_le hz1 hb2.size
  clear hc1 hf1
  go_wp2_with fail
  have hbw3 := hbw2.alloc (by omega) (.cells #[.int .i64 57753, .int .i64 86400, .int .i64 500000000000000000] 23)
  refine (parse_list [50, 48, 49, 54, 45, 48, 50, 45, 51, 48, 84, 48, 48, 58, 48, 48, 58, 48, 48, 90] _ (by decide) (below_pow HT.out hbw3) (below_tab HL.out hbw3)).mono ?_
  rintro e w3 ⟨rfl, hb3⟩
  rw [ans3]
  have hbw4 := hbw3.trans (hb3.mono hbw3.size)
  have c0 : w3.cell? ⟨w.heap.size, 0, none⟩ = some (.int .i64 57753) := below_cell hb3 (by simp; omega) (by go_simp)
  have c1 : w3.cell? ⟨w.heap.size, 1, none⟩ = some (.int .i64 86400) := below_cell hb3 (by simp; omega) (by go_simp)
  have c2 : w3.cell? ⟨w.heap.size, 2, none⟩ = some (.int .i64 500000000000000000) := below_cell hb3 (by simp; omega) (by go_simp)
  have e0 : w3.cell? ⟨w2.heap.size, 0, none⟩ = some (.int .i64 57753) := below_cell hb3 (by simp) (by go_simp)
  have e1 : w3.cell? ⟨w2.heap.size, 1, none⟩ = some (.int .i64 86400) := below_cell hb3 (by simp) (by go_simp)
  have e2 : w3.cell? ⟨w2.heap.size, 2, none⟩ = some (.int .i64 500000000000000000) := below_cell hb3 (by simp) (by go_simp)
  have z3 : w2.heap.size < w3.heap.size := by have := hb3.size; simp at this; omega
  have z4 : w.heap.size < w3.heap.size := by omega
  go_wp2
  go_ret
  exact ⟨rfl, hbw4.alloc (by omega) _⟩
end Go.Proofs.YtapbfkofoamaaaaGreatDoor
