/- What the reference's calls for the calendar come to. -/
import Derived.Test.YtapbfkofoamaaaaGreatDoorRefP
import Derived.Test.YtapbfkofoamaaaaGreatDoorCalW
namespace Go.Proofs.YtapbfkofoamaaaaGreatDoor
open Go.RowKit
set_option linter.unusedVariables false
set_option linter.unusedSimpArgs false

theorem rfloor_hi {a b : Int} (hb : 0 < b) (h : ¬ a.tdiv b * b > a) : a.tdiv b = a / b := by
  have h1 := Int.mul_tdiv_add_tmod a b
  have h3 : 0 ≤ a.tmod b := by rw [Int.mul_comm] at h1; omega
  exact floor_hi hb h3
theorem rfloor_lo {a b : Int} (hb : 0 < b) (h : a.tdiv b * b > a) : a.tdiv b - 1 = a / b := by
  have h1 := Int.mul_tdiv_add_tmod a b
  have h3 : a.tmod b < 0 := by rw [Int.mul_comm] at h1; omega
  exact floor_lo hb h3
theorem tdiv_big {a b : Int} (hb : 0 < b) (h1 : -1000000000000000 ≤ a) (h2 : a ≤ 1000000000000000) : -1000000000000000 ≤ a.tdiv b ∧ a.tdiv b ≤ 1000000000000000 ∧ -1000000000000000 ≤ a.tdiv b * b ∧ a.tdiv b * b ≤ 1000000000000000 := by
  have e1 := Int.natAbs_tdiv_le_natAbs a b
  have e2 : (a.tdiv b * b).natAbs ≤ a.natAbs := by
    rw [Int.natAbs_mul, Int.natAbs_tdiv]
    exact Nat.div_mul_le_self _ _
  omega
set_option maxHeartbeats 400000 in
theorem rfloor_any (a b : Int) (hb : 0 < b) (hb2 : b ≤ 1000000) (h1 : -1000000000000000 ≤ a) (h2 : a ≤ 1000000000000000) (w : World) : Calls Tryz.prog 45 #[.int .i64 a, .int .i64 b] w fun r w' => r = .returned (.int .i64 (a / b)) ∧ w = w' := by
  obtain ⟨g1, g2, g3, g4⟩ := tdiv_big hb h1 h2
  by_cases h : a.tdiv b * b > a
  · have e := Lib.hid (rfloor_lo hb h)
    go_enter Tryz.func45, Tryz.ntmps45
    go_wp2
    go_ret
    exact ⟨ret_int e.out, rfl⟩
  · have e := Lib.hid (rfloor_hi hb h)
    go_enter Tryz.func45, Tryz.ntmps45
    go_wp2
    go_ret
    exact ⟨ret_int e.out, rfl⟩
set_option maxHeartbeats 400000 in
theorem rlong_any (y : Int) (w : World) : Calls Tryz.prog 86 #[.int .i64 y] w fun r w' => r = .returned (.bool (leap y)) ∧ w = w' := by
  go_enter Tryz.func86, Tryz.ntmps86
  go_wp2
  all_goals
    go_ret
    refine ⟨ret_bool ?_, rfl⟩
    unfold leap
    simp_all [tmod_zero]
    try grind [tmod_zero]
set_option maxHeartbeats 400000 in
theorem rfirst_any (y : Int) (h1 : -100000000000 ≤ y) (h2 : y ≤ 100000000000) (w : World) : Calls Tryz.prog 46 #[.int .i64 y] w fun r w' => r = .returned (.int .i64 (firstY y)) ∧ w = w' := by
  go_enter Tryz.func46, Tryz.ntmps46
  go_wp2_with (first | (go_at_call 45; refine (rfloor_any _ _ (by omega) (by omega) (by omega) (by omega) _).mono ?_; rintro e w1 ⟨rfl, rfl⟩))
  go_ret
  exact ⟨ret_int (by unfold firstY; omega), rfl⟩

theorem len_cell (w : World) (j : Nat) (hj : j < 12) : (w.alloc (.cells #[.int .i64 31, .int .i64 28, .int .i64 31, .int .i64 30, .int .i64 31, .int .i64 30, .int .i64 31, .int .i64 31, .int .i64 30, .int .i64 31, .int .i64 30, .int .i64 31] 3)).cell? ⟨w.heap.size, j, none⟩ = some (.int .i64 (monthLens.getD j 0)) := by
  rw [World.cell?_alloc_new]
  have h : j = 0 ∨ j = 1 ∨ j = 2 ∨ j = 3 ∨ j = 4 ∨ j = 5 ∨ j = 6 ∨ j = 7 ∨ j = 8 ∨ j = 9 ∨ j = 10 ∨ j = 11 := by omega
  rcases h with rfl | rfl | rfl | rfl | rfl | rfl | rfl | rfl | rfl | rfl | rfl | rfl <;> rfl
set_option maxRecDepth 100000 in
set_option maxHeartbeats 1000000 in
theorem rlength_any (y m : Int) (w : World) : Calls Tryz.prog 47 #[.int .i64 y, .int .i64 m] w fun r w' => r = .returned (.int .i64 (mlen y m)) ∧ Below w.heap.size w w' := by
  by_cases c1 : m < 1
  · go_enter Tryz.func47, Tryz.ntmps47
    go_wp2
    go_ret
    exact ⟨ret_int (by simp [mlen, c1]), by go_grown⟩
  · by_cases c2 : 12 < m
    · go_enter Tryz.func47, Tryz.ntmps47
      go_wp2
      go_ret
      exact ⟨ret_int (by simp [mlen, c2]), by go_grown⟩
    · obtain ⟨j, rfl⟩ : ∃ j : Nat, m = j + 1 := ⟨(m - 1).toNat, by omega⟩
      have hj : j < 12 := by omega
      have hc := len_cell w j hj
      by_cases c3 : j = 1
      · subst c3
        have HM := Lib.hid (show mlen y ((1 : Nat) + 1) = if leap y = true then 29 else 28 by simp [mlen, monthLens])
        generalize hl : leap y = b at HM
        have HL := Lib.hid hl
        clear hl
        cases b
        all_goals
          go_enter Tryz.func47, Tryz.ntmps47
          go_wp2_with (go_at_call 86; refine (rlong_any _ _).mono ?_; rintro e w' ⟨rfl, rfl⟩; rw [HL.out])
          go_ret
          exact ⟨ret_int (by rw [HM.out]; rfl), by go_grown⟩
      · have c4 : ((j : Int) + 1 == 2) = false := by rw [beq_eq_false_iff_ne]; omega
        have HM := Lib.hid (show mlen y ((j : Int) + 1) = monthLens.getD j 0 by
          simp only [mlen]
          rw [if_neg (by omega), if_neg (by omega), show ((j : Int) + 1 - 1).toNat = j from by omega])
        generalize monthLens.getD j 0 = z at HM hc
        go_enter Tryz.func47, Tryz.ntmps47
        go_wp2
        go_ret
        exact ⟨ret_int HM.out.symm, by go_grown⟩

theorem ret_agg3 {a b c a' b' c' : Int} (h1 : a = a') (h2 : b = b') (h3 : c = c') : Ending.returned (.agg #[.int .i64 a, .int .i64 b, .int .i64 c]) = .returned (.agg #[.int .i64 a', .int .i64 b', .int .i64 c']) := by rw [h1, h2, h3]
set_option maxRecDepth 100000 in
set_option maxHeartbeats 2000000 in
theorem rdate_any (n : Int) (h1 : -2000000000000 ≤ n) (h2 : n ≤ 2000000000000) (w : World) : Calls Tryz.prog 17 #[.int .i64 n] w fun r w' => r = .returned (.agg #[.int .i64 (gY n), .int .i64 (gM n), .int .i64 (gD n)]) ∧ Below w.heap.size w w' := by
  have HG := Lib.hid (show (n + 678941) * 400 / 146097 - 1 = yGuess n from rfl)
  have HF := Lib.hid (guess_first n)
  have hy1 : -10000000000 ≤ yGuess n ∧ yGuess n ≤ 10000000000 := by unfold yGuess; omega
  go_enter Tryz.func17, Tryz.ntmps17
  go_wp2_with (first | (go_at_call 45; refine (rfloor_any _ _ (by omega) (by omega) (by omega) (by omega) _).mono ?_; rintro e w1 ⟨rfl, rfl⟩; rw [show ((n + 678941) * 400 / 146097) = yGuess n + 1 by have := HG.out; omega]))
  go_loopw [3] (fun v w' => ∃ y : Int, v = .int .i64 y ∧ w' = w.alloc (.cells #[.int .i64 0, .int .i64 0, .int .i64 0] 29) ∧ (-10000000000 ≤ y ∧ y ≤ 10000000000) ∧ Hid (firstY y ≤ n)) (fun v _ => (n - firstY (intOf v)).toNat)
  case atStart => exact ⟨_, rfl, rfl, hy1, HF⟩
  case round =>
    obtain ⟨y, rfl, rfl, ⟨hy1, hy2⟩, HY⟩ := hrel
    by_cases ht : firstY (y + 1) ≤ n
    · have hT2 := Lib.hid ht
      have hst := Lib.hid (first_step y)
      have hmb := Lib.hid (more_bd y)
      have hb := Lib.hid (show y + 1 ≤ 10000000000 by unfold firstY at ht; omega)
      generalize hf : firstY (y + 1) = f at ht hT2 hst
      have HFE := Lib.hid hf
      clear hf
      go_wp2_with (first | (go_at_call 46; refine (rfirst_any _ (by omega) (by omega) _).mono ?_; rintro e w1 ⟨rfl, rfl⟩; rw [HFE.out]))
      go_roundw
      case rel => exact ⟨_, rfl, trivial, ⟨by omega, hb.out⟩, Lib.hid (by rw [HFE.out]; exact hT2.out)⟩
      case measure => simp [intOf]; have := HY.out; have := hst.out; have := hmb.out; have := hT2.out; rw [HFE.out]; omega
    · have HE := Lib.hid (show n < firstY (y + 1) by omega)
      have hyb := Lib.hid (show -10000000000 ≤ n - firstY y ∧ n - firstY y ≤ 10000000000 by have := first_step y; have := more_bd y; have := HY.out; omega)
      generalize hf : firstY (y + 1) = f at ht
      have HFE := Lib.hid hf
      clear hf
      generalize hg : n - firstY y = k0 at hyb
      have HK := Lib.hid hg
      generalize hg2 : firstY y = f0 at hg
      have HF0 := Lib.hid hg2
      clear hg2
      obtain ⟨hyb1, hyb2⟩ := hyb
      go_wp2_with (first | (go_at_call 46; refine (rfirst_any _ (by omega) (by omega) _).mono ?_; rintro e w1 ⟨rfl, rfl⟩; (first | rw [HFE.out] | rw [HF0.out])))
      go_loopw [0, 4] (fun a b w' => ∃ k m : Int, a = .int .i64 k ∧ b = .int .i64 m ∧ Below (w.alloc (.cells #[.int .i64 0, .int .i64 0, .int .i64 0] 29)).heap.size (w.alloc (.cells #[.int .i64 0, .int .i64 0, .int .i64 0] 29)) w' ∧ (1 ≤ m ∧ m ≤ 12) ∧ (0 ≤ k ∧ k ≤ 10000000000) ∧ Hid (n = firstY y + cumM y m + k)) (fun _ b _ => (12 - intOf b).toNat)
      case atStart => exact ⟨k0, 1, rfl, rfl, Below.refl _ _, by omega, ⟨by have := HK.out; have := HY.out; omega, hyb2⟩, Lib.hid (by rw [cum_one]; have := HK.out; omega)⟩
      case round =>
        obtain ⟨k, m, rfl, rfl, hB, ⟨hm1, hm2⟩, ⟨hk1, hk2⟩, HN⟩ := hrel
        by_cases hl : mlen y m ≤ k
        · have hnx := Lib.hid (month_left hm1 hm2 HE.out HN.out hl)
          have hcs := Lib.hid (cum_step (y := y) hm1 hm2)
          have hml := Lib.hid (mlen_le y m)
          generalize hz : mlen y m = z at hl hcs hml
          have HZ := Lib.hid hz
          clear hz
          have hz2 := hml.out
          go_wp2_with fail
          refine (rlength_any _ _ _).mono ?_
          rintro e w2 ⟨rfl, hb2⟩
          rw [HZ.out]
          go_wp2_with fail
          refine (rlength_any _ _ _).mono ?_
          rintro e w3 ⟨rfl, hb3⟩
          rw [HZ.out]
          go_wp2
          exact ⟨⟨k - z, m + 1, rfl, rfl, (hB.trans (hb2.mono hB.size)).trans (hb3.mono (by have := hB.size; have := hb2.size; omega)), ⟨by omega, hnx.out⟩, ⟨by omega, by omega⟩, Lib.hid (by have := hcs.out; have := HN.out; omega)⟩, by simp [intOf]; have := hnx.out; omega⟩
        · have hfd := Lib.hid (found hm1 hm2 hk1 (by omega) HN.out)
          have hml := Lib.hid (mlen_le y m)
          generalize hz : mlen y m = z at hl hml
          have HZ := Lib.hid hz
          clear hz
          have hz2 := hml.out
          go_wp2_with fail
          refine (rlength_any _ _ _).mono ?_
          rintro e w2 ⟨rfl, hb2⟩
          rw [HZ.out]
          have hbb := hB.trans (hb2.mono hB.size)
          have r0 : w2.cell? ⟨w.heap.size, 0, none⟩ = some (.int .i64 0) := below_cell hbb (by simp) (by go_simp)
          have r1 : w2.cell? ⟨w.heap.size, 1, none⟩ = some (.int .i64 0) := below_cell hbb (by simp) (by go_simp)
          have r2 : w2.cell? ⟨w.heap.size, 2, none⟩ = some (.int .i64 0) := below_cell hbb (by simp) (by go_simp)
          have hz1 : w.heap.size < w2.heap.size := by have := hbb.size; simp at this; omega
          obtain ⟨hc1, hf1⟩ := bcell hbb
          go_wp2
          refine bodyPost_ret (v := .agg #[.int .i64 y, .int .i64 m, .int .i64 (k + 1)]) ?_ rfl ?_
          · simp [results, Tryz.results17, go_sem, World.cell?_setCell_same', World.cell?_setCell_other, r0, r1, r2, hz1, Nat.ne_of_lt hz1, World.size_setCell]
          · obtain ⟨k1, k2, k3⟩ := hfd.out
            exact ⟨ret_agg3 k1.symm k2.symm k3.symm, by have := below_box hbb; go_grown⟩
end Go.Proofs.YtapbfkofoamaaaaGreatDoor
