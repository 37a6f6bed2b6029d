/- IsoOrder: of two labels of one year, from 0 to 9999, the later one has the later text, byte by byte, if neither has a fraction: for all labels. -/
import Derived.Test.YtapbfkofoamaaaaGreatDoorIsoA
import Derived.Test.YtapbfkofoamaaaaGreatDoorLaid
import Derived.Test.YtapbfkofoamaaaaGreatDoorOrdP
import Derived.Test.YtapbfkofoamaaaaGreatDoorRef05
import Derived.Deep.Slices
import Derived.Carry
import Derived.Lib.SmallJoins
namespace Go.Proofs.YtapbfkofoamaaaaGreatDoor
open Go.ChangeShapes Go.WideShapes Go.ChangeAt Go.RowKit Go.Joins
set_option linter.unusedVariables false
set_option linter.unusedSimpArgs false

theorem less_eq : ∀ x y : List UInt8, Op.bytesLess x y = ltB x y
  | [], [] => rfl
  | _ :: _, [] => rfl
  | [], _ :: _ => rfl
  | a :: x, b :: y => by rw [Op.bytesLess, ltB, less_eq x y]
theorem print_ok {d s a : Int} (h : printE d s a = 0) : tOk s a = true ∧ nOk d = true := by
  unfold printE at h
  cases h1 : tOk s a <;> cases h2 : nOk d <;> simp [h1, h2] at h ⊢
theorem print_lab {d s a : Int} (h : tOk s a = true) (h2 : nOk d = true) : printL d s a = labelL d s a := by simp [printL, h, h2]

set_option maxRecDepth 100000 in
set_option maxHeartbeats 4000000 in
theorem isoOrder_walk (d s a d' s' a' : Int) (w : World) (hT : TabPow w) (hL : TabLen w) :
    Calls Tryz.prog 3 #[.agg #[.int .i64 d, .int .i64 s, .int .i64 a], .agg #[.int .i64 d', .int .i64 s', .int .i64 a']] w fun e w' => e = .returned (.bool true) ∧ Below w.heap.size w w' := by
  have HT := Lib.hid hT
  have HL := Lib.hid hL
  clear hT hL
  by_cases h1 : printE d s 0 = 0
  · by_cases h2 : printE d' s' 0 = 0
    · obtain ⟨t1, n1⟩ := print_ok h1
      obtain ⟨t2, n2⟩ := print_ok h2
      have E1 := Lib.hid h1
      have E2 := Lib.hid h2
      have nb1 : -1099511627776 ≤ d ∧ d ≤ 1099511627776 := by simpa [nOk] using n1
      have nb2 : -1099511627776 ≤ d' ∧ d' ≤ 1099511627776 := by simpa [nOk] using n2
      clear h1 h2
      generalize hl1 : printL d s 0 = l1
      generalize hl2 : printL d' s' 0 = l2
      have L1 := Lib.hid hl1
      have L2 := Lib.hid hl2
      clear hl1 hl2
      have hfd : ∀ (w : World) (a b c : Int), (Instr.field 29 (.agg #[.int .i64 a, .int .i64 b, .int .i64 c]) 0).run Tryz.prog w = .ok (.int .i64 a) w := fun _ _ _ _ => by kernel_rfl
      go_enter Tryz.func3, Tryz.ntmps3
      go_wp2_with fail
      have hb0 : Below w.heap.size w ((w.alloc (.cells #[.int .i64 d, .int .i64 s, .int .i64 0] 23)).alloc (.cells #[.int .i64 d', .int .i64 s', .int .i64 0] 23)) := by go_grown
      have p0 : ∀ w', Below ((w.alloc (.cells #[.int .i64 d, .int .i64 s, .int .i64 0] 23)).alloc (.cells #[.int .i64 d', .int .i64 s', .int .i64 0] 23)).heap.size ((w.alloc (.cells #[.int .i64 d, .int .i64 s, .int .i64 0] 23)).alloc (.cells #[.int .i64 d', .int .i64 s', .int .i64 0] 23)) w' →
          w'.cell? ⟨w.heap.size, 0, none⟩ = some (.int .i64 d) ∧ w'.cell? ⟨w.heap.size, 1, none⟩ = some (.int .i64 s) ∧ w'.cell? ⟨w.heap.size, 2, none⟩ = some (.int .i64 0) ∧
          w'.cell? ⟨w.heap.size + 1, 0, none⟩ = some (.int .i64 d') ∧ w'.cell? ⟨w.heap.size + 1, 1, none⟩ = some (.int .i64 s') ∧ w'.cell? ⟨w.heap.size + 1, 2, none⟩ = some (.int .i64 0) := by
        intro w' hb
        refine ⟨below_cell hb (by simp; omega) (by go_simp), below_cell hb (by simp; omega) (by go_simp), below_cell hb (by simp; omega) (by go_simp), below_cell hb (by simp) (by go_simp), below_cell hb (by simp) (by go_simp), below_cell hb (by simp) (by go_simp)⟩
      generalize hw0 : (w.alloc (.cells #[.int .i64 d, .int .i64 s, .int .i64 0] 23)).alloc (.cells #[.int .i64 d', .int .i64 s', .int .i64 0] 23) = w0 at hb0 p0
      clear hw0
      refine (print_any _ _ _ _ (below_pow HT.out hb0)).mono ?_
      rintro e w1 ⟨rfl, hb1⟩
      rw [E1.out, L1.out]
      obtain ⟨c0, c1, c2, c3, c4, c5⟩ := p0 w1 hb1
      go_wp2_with fail
      have hbw1 := hb0.trans (hb1.mono hb0.size)
      refine (print_any _ _ _ _ (below_pow HT.out hbw1)).mono ?_
      rintro e w2 ⟨rfl, hb2⟩
      rw [E2.out, L2.out]
      have hbb2 := hb1.trans (hb2.mono hb1.size)
      have hbw2 := hb0.trans (hbb2.mono hb0.size)
      have q0 : ∀ w', Below w2.heap.size w2 w' → w'.cell? ⟨w.heap.size, 0, none⟩ = some (.int .i64 d) := fun w' hb => (p0 w' (hbb2.trans (hb.mono hbb2.size))).1
      have q3 : ∀ w', Below w2.heap.size w2 w' → w'.cell? ⟨w.heap.size + 1, 0, none⟩ = some (.int .i64 d') := fun w' hb => (p0 w' (hbb2.trans (hb.mono hbb2.size))).2.2.2.1
      have HTa := Lib.hid (below_pow HT.out hbw2)
      have HLa := Lib.hid (below_tab HL.out hbw2)
      generalize hy1 : gY d = y1
      generalize hy2 : gY d' = y2
      have Y1 := Lib.hid hy1
      have Y2 := Lib.hid hy2
      clear hy1 hy2 c0 c1 c2 c3 c4 c5
      go_wp2_with fail
      go_region_held3 (fun w' => Below w2.heap.size w2 w') (first | exact (Below.refl _ _).drew | exact below_next (by assumption) hb | exact below_more (by assumption))
        (first | (go_at_call 17; refine (rdate_any _ (by omega) (by omega) _).mono ?_; rintro e wn ⟨rfl, hb⟩; (first | rw [Y1.out] | rw [Y2.out])))
      rename_i hS
      have hbw3 := hbw2.trans (hS.mono hbw2.size)
      have hbb3 := hbb2.trans (hS.mono hbb2.size)
      obtain ⟨c0, c1, c2, c3, c4, c5⟩ := p0 wn hbb3
      have HTb := Lib.hid (below_pow HT.out hbw3)
      have HLb := Lib.hid (below_tab HL.out hbw3)
      clear hb1 hb2 hb hS
      by_cases hne : y1 = y2
      · by_cases hr : 0 ≤ y1 ∧ y1 ≤ 9999
        · have q1 : (y1 == y2) = true := by simp [hne]
          have q2 : (y1 != y2) = false := by simp [hne]
          subst hne
          have LAW := Lib.hid (show Op.bytesLess l1 l2 = (decide (d < d') || (decide (d = d') && decide (s < s'))) by
            rw [← L1.out, ← L2.out, less_eq, print_lab t1 n1, print_lab t2 n2]; exact text_order t1 n1 t2 n2 (Y1.out.trans Y2.out.symm))
          obtain ⟨r1, r2⟩ := hr
          by_cases k1 : d < d'
          · go_wp2_with fail
            refine (answers25_any _ HTb.out HLb.out).mono ?_
            rintro e w4 ⟨rfl, hb4⟩
            go_wp2
            go_ret
            exact ⟨ret_bool (by rw [LAW.out]; simp [k1]), hbw3.trans (hb4.mono hbw3.size)⟩
          · by_cases k2 : d = d'
            · have q3 : (d == d') = true := by simp [k2]
              by_cases k3 : s < s'
              · go_wp2_with fail
                refine (answers25_any _ HTb.out HLb.out).mono ?_
                rintro e w4 ⟨rfl, hb4⟩
                go_wp2
                go_ret
                exact ⟨ret_bool (by rw [LAW.out]; simp [k2, k3]), hbw3.trans (hb4.mono hbw3.size)⟩
              · go_wp2_with fail
                refine (answers25_any _ HTb.out HLb.out).mono ?_
                rintro e w4 ⟨rfl, hb4⟩
                go_wp2
                go_ret
                exact ⟨ret_bool (by rw [LAW.out]; simp [k2, k3]), hbw3.trans (hb4.mono hbw3.size)⟩
            · have q3 : (d == d') = false := by simp [k2]
              go_wp2_with fail
              refine (answers25_any _ HTb.out HLb.out).mono ?_
              rintro e w4 ⟨rfl, hb4⟩
              go_wp2
              go_ret
              exact ⟨ret_bool (by rw [LAW.out]; simp [k1, k2]), hbw3.trans (hb4.mono hbw3.size)⟩
        · have q1 : (y1 == y2) = true := by simp [hne]
          have q2 : (y1 != y2) = false := by simp [hne]
          subst hne
          by_cases r1 : y1 < 0
          · go_wp2_with fail
            refine (answers25_any _ HTb.out HLb.out).mono ?_
            rintro e w4 ⟨rfl, hb4⟩
            go_wp2
            go_ret
            exact ⟨rfl, hbw3.trans (hb4.mono hbw3.size)⟩
          · have r2 : 9999 < y1 := by omega
            go_wp2_with fail
            refine (answers25_any _ HTb.out HLb.out).mono ?_
            rintro e w4 ⟨rfl, hb4⟩
            go_wp2
            go_ret
            exact ⟨rfl, hbw3.trans (hb4.mono hbw3.size)⟩
      · have q1 : (y1 == y2) = false := by simp [hne]
        have q2 : (y1 != y2) = true := by simp [hne]
        go_wp2_with fail
        refine (answers25_any _ HTb.out HLb.out).mono ?_
        rintro e w4 ⟨rfl, hb4⟩
        go_wp2
        go_ret
        exact ⟨rfl, hbw3.trans (hb4.mono hbw3.size)⟩
    · have E1 := Lib.hid h1
      generalize hf : printE d' s' 0 = f2 at h2
      have E2 := Lib.hid hf
      clear h1 hf
      have x1 : (f2 == 0) = false := by simp [h2]
      have x2 : (f2 != 0) = true := by simp [h2]
      go_enter Tryz.func3, Tryz.ntmps3
      go_wp2_with fail
      have hb0 : Below w.heap.size w ((w.alloc (.cells #[.int .i64 d, .int .i64 s, .int .i64 0] 23)).alloc (.cells #[.int .i64 d', .int .i64 s', .int .i64 0] 23)) := by go_grown
      refine (print_any _ _ _ _ (below_pow HT.out hb0)).mono ?_
      rintro e w1 ⟨rfl, hb1⟩
      rw [E1.out]
      have p0 : w1.cell? ⟨w.heap.size + 1, 0, none⟩ = some (.int .i64 d') := below_cell hb1 (by simp) (by go_simp)
      have p1 : w1.cell? ⟨w.heap.size + 1, 1, none⟩ = some (.int .i64 s') := below_cell hb1 (by simp) (by go_simp)
      have p2 : w1.cell? ⟨w.heap.size + 1, 2, none⟩ = some (.int .i64 0) := below_cell hb1 (by simp) (by go_simp)
      have hbw1 := hb0.trans (hb1.mono hb0.size)
      go_wp2_with fail
      refine (print_any _ _ _ _ (below_pow HT.out hbw1)).mono ?_
      rintro e w2 ⟨rfl, hb2⟩
      rw [E2.out]
      have hbw2 := hbw1.trans (hb2.mono hbw1.size)
      go_wp2_with fail
      refine (answers25_any _ (below_pow HT.out hbw2) (below_tab HL.out hbw2)).mono ?_
      rintro e w4 ⟨rfl, hb4⟩
      go_wp2
      go_ret
      exact ⟨rfl, hbw2.trans (hb4.mono hbw2.size)⟩
  · generalize hf : printE d s 0 = f1 at h1
    have E1 := Lib.hid hf
    clear hf
    have x1 : (f1 == 0) = false := by simp [h1]
    have x2 : (f1 != 0) = true := by simp [h1]
    go_enter Tryz.func3, Tryz.ntmps3
    go_wp2_with fail
    have hb0 : Below w.heap.size w ((w.alloc (.cells #[.int .i64 d, .int .i64 s, .int .i64 0] 23)).alloc (.cells #[.int .i64 d', .int .i64 s', .int .i64 0] 23)) := by go_grown
    refine (print_any _ _ _ _ (below_pow HT.out hb0)).mono ?_
    rintro e w1 ⟨rfl, hb1⟩
    rw [E1.out]
    have p0 : w1.cell? ⟨w.heap.size + 1, 0, none⟩ = some (.int .i64 d') := below_cell hb1 (by simp) (by go_simp)
    have p1 : w1.cell? ⟨w.heap.size + 1, 1, none⟩ = some (.int .i64 s') := below_cell hb1 (by simp) (by go_simp)
    have p2 : w1.cell? ⟨w.heap.size + 1, 2, none⟩ = some (.int .i64 0) := below_cell hb1 (by simp) (by go_simp)
    have hbw1 := hb0.trans (hb1.mono hb0.size)
    go_wp2_with fail
    refine (print_any _ _ _ _ (below_pow HT.out hbw1)).mono ?_
    rintro e w2 ⟨rfl, hb2⟩
    have hbw2 := hbw1.trans (hb2.mono hbw1.size)
    go_wp2_with fail
    refine (answers25_any _ (below_pow HT.out hbw2) (below_tab HL.out hbw2)).mono ?_
    rintro e w4 ⟨rfl, hb4⟩
    go_wp2
    go_ret
    exact ⟨rfl, hbw2.trans (hb4.mono hbw2.size)⟩
end Go.Proofs.YtapbfkofoamaaaaGreatDoor
