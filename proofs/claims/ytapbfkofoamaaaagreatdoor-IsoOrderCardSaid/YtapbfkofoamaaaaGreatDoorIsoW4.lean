/- The shape of a label's text, and its label. -/
import Derived.Test.YtapbfkofoamaaaaGreatDoorIsoW3
namespace Go.Proofs.YtapbfkofoamaaaaGreatDoor
open Go.RowKit
set_option linter.unusedVariables false
set_option linter.unusedSimpArgs false

def shDate (l : List UInt8) : Value := .agg #[.int .i64 (shV l).y, .int .i64 (shV l).m, .int .i64 (shV l).d]
def shTime (l : List UInt8) : Value := .agg #[.int .i64 (shV l).h, .int .i64 (shV l).mi, .int .i64 (shV l).s, .int .i64 (shV l).a]

theorem int_row {w : World} {B : Nat} {v : Value} {zs : List Int} (h : IntRow w B v zs) (n : Nat) (hn : zs.length = n) (h0 : 0 < n) : ∃ g cap, v = .slice (some ⟨g, 0, none⟩) n cap ∧ n ≤ cap ∧ (B ≤ g ∧ g < w.heap.size) ∧ ∀ j z, zs[j]? = some z → w.cell? ⟨g, j, none⟩ = some (.int .i64 z) := by
  subst hn
  have hk := h
  obtain ⟨h1, h2⟩ := h
  rcases h2 with ⟨_, h3⟩ | ⟨g, cap, cur, rfl, hg, hh, hc, hm, hs, ht⟩
  · omega
  · refine ⟨g, cap, rfl, hc, (hk.lt g rfl), fun j z hz => ?_⟩
    have := hk.cells (g := g) rfl j (.int .i64 z) (by simp [hz])
    cases j <;> simpa [Addr.add] using this
/-- The two results' own cells, at zero. -/
def Zero2 (w wa : World) : Prop := wa.heap[w.heap.size]? = some (.cells #[.int .i64 0, .int .i64 0, .int .i64 0] 29 (0, 0)) ∧ wa.heap[w.heap.size + 1]? = some (.cells #[.int .i64 0, .int .i64 0, .int .i64 0, .int .i64 0] 67 (0, 0)) ∧ w.heap.size + 1 < wa.heap.size
theorem new_zero (w : World) : Zero2 w ((w.alloc (.cells #[.int .i64 0, .int .i64 0, .int .i64 0] 29)).alloc (.cells #[.int .i64 0, .int .i64 0, .int .i64 0, .int .i64 0] 67)) := by
  refine ⟨?_, ?_, by simp⟩
  · rw [Below.heap_alloc _ _ _ (by simp)]
    show (w.heap.push _)[w.heap.size]? = _
    simp
  · show ((w.alloc _).heap.push _)[w.heap.size + 1]? = _
    rw [show w.heap.size + 1 = (w.alloc (.cells #[.int .i64 0, .int .i64 0, .int .i64 0] 29)).heap.size by simp]
    simp only [Array.getElem?_push_size]
/-- 'two', its flag told apart from its row. -/
def TwoSaid (l : List UInt8) (c : UInt8) (w : World) (e : Ending) (w' : World) : Prop :=
  ∃ v, e = .returned (.tuple #[v, .bool (twoL c l).isSome]) ∧ Below w.heap.size w w' ∧ (∀ zs, twoL c l = some zs → IntRow w' w.heap.size v zs)
theorem two_said (s : ByteArray) (l : List UInt8) (m : Nat) (c : UInt8) (ci : Int) (hci : ci = c.toNat) (w : World) (hm : m ≤ 10) (hs : s.size = 3 * m + 2) (hl : s.data.toList = l) :
    Calls Tryz.prog 128 #[.string s, .int .u8 ci] w (TwoSaid l c w) := by
  subst hl hci
  refine (two_any s m c w hm hs).mono fun e w' h => ?_
  rcases h with ⟨v, zs, h1, h2, h3, h4⟩ | ⟨h1, h2, h3⟩
  · exact ⟨v, by rw [h1]; exact h2, h4, fun ys hy => by rw [h1] at hy; obtain rfl := Option.some.inj hy; exact h3⟩
  · exact ⟨_, by rw [h1]; exact h2, h3, fun ys hy => by rw [h1] at hy; cases hy⟩
theorem ext_list (z : List UInt8) (a b : Nat) : ((ByteArray.mk z.toArray).extract a b).data.toList = (z.drop a).take (b - a) := by rw [Lib.extract_data]
theorem ext_size (z : List UInt8) (a b : Nat) (h : b ≤ z.length) (h2 : a ≤ b) : ((ByteArray.mk z.toArray).extract a b).size = b - a := by
  rw [ByteArray.size_extract]
  have : (ByteArray.mk z.toArray).size = z.length := by simp [ByteArray.size]
  omega
theorem ext_data (z : List UInt8) (a b : Nat) (y : List UInt8) (h : (z.drop a).take (b - a) = y) : ((ByteArray.mk z.toArray).extract a b).data.toList = y := by rw [ext_list]; exact h
theorem ryv_bd (l : List UInt8) : -1000000000000000000 ≤ ryV l ∧ ryV l ≤ 1000000000000000000 := by
  unfold ryV
  split
  · rename_i h
    have h' : digsL (bodyL l) = true ∧ (bodyL l).length ≤ 18 := by simp [ryC] at h; exact ⟨h.1.2, h.2⟩
    have := num_bd h'.1 h'.2
    unfold ryN
    split <;> omega
  · omega

set_option maxRecDepth 100000 in
set_option maxHeartbeats 4000000 in
theorem shape_any (s : ByteArray) (w : World) (hs : s.size ≤ 140737488355328) (hT : TabPow w) :
    Calls Tryz.prog 81 #[.string s] w fun e w' => e = .returned (.tuple #[.agg #[.int .i64 (shV s.data.toList).y, .int .i64 (shV s.data.toList).m, .int .i64 (shV s.data.toList).d], .agg #[.int .i64 (shV s.data.toList).h, .int .i64 (shV s.data.toList).mi, .int .i64 (shV s.data.toList).s, .int .i64 (shV s.data.toList).a], .bool (shB s.data.toList)]) ∧ Below w.heap.size w w' := by
  have HT := Lib.hid hT
  clear hT
  have hzl : (cutZ s.data.toList).length ≤ s.size := Nat.le_trans (Lib.trimSuffix_le _ _) (Nat.le_of_eq (by simp))
  generalize hz : cutZ s.data.toList = z at hzl
  have HZ := Lib.hid hz
  have HZ2 := Lib.hid (show Lib.trimSuffix s.data.toList [90] = z from hz)
  clear hz
  have hab := index_bd z 84
  generalize ha : Lib.indexByte z 84 = at_ at hab
  obtain ⟨ha1, ha2⟩ := hab
  have HA := Lib.hid ha
  have HAT := Lib.hid (show atT s.data.toList = at_ by unfold atT; rw [HZ.out, ha])
  clear ha
  have no : shC s.data.toList = false → Calls Tryz.prog 81 #[.string s] w fun e w' => e = .returned (.tuple #[.agg #[.int .i64 (shV s.data.toList).y, .int .i64 (shV s.data.toList).m, .int .i64 (shV s.data.toList).d], .agg #[.int .i64 (shV s.data.toList).h, .int .i64 (shV s.data.toList).mi, .int .i64 (shV s.data.toList).s, .int .i64 (shV s.data.toList).a], .bool (shB s.data.toList)]) ∧ Below w.heap.size w w' := by
    intro hc
    have hB := Lib.hid (show shB s.data.toList = false by simp [shB, hc])
    have hV := Lib.hid (sh_no hB.out)
    have hc2 : ¬ (Lib.hasSuffix s.data.toList [90] = true ∧ 7 ≤ at_ ∧ at_ + 9 ≤ z.length) := by
      rintro ⟨k1, k2, k3⟩
      simp [shC, k1, HAT.out, HZ.out, k2, k3] at hc
    have H2 := Lib.hid hc2
    clear hc hc2
    by_cases c1 : Lib.hasSuffix s.data.toList [90] = true
    · have c2 : ¬ (7 ≤ at_ ∧ at_ + 9 ≤ z.length) := fun h => H2.out ⟨c1, h⟩
      by_cases c3 : at_ < 7
      all_goals
        go_enter Tryz.func81, Tryz.ntmps81
        go_wp2_with (first | (go_at_call 125; refine (cutS_any _ [90] _ (by omega)).mono ?_; rw [HZ2.out]; rintro e w1 ⟨rfl, rfl⟩) | (go_at_call 126; refine (indexB_any _ 84 _).mono ?_; rw [show Lib.indexByte (ByteArray.mk z.toArray).data.toList ((84 : Int).toNat.toUInt8) = at_ from HA.out]; rintro e w1 ⟨rfl, rfl⟩))
        go_returns
        rw [hB.out, hV.out]
        exact ⟨rfl, by go_grown⟩
    · go_enter Tryz.func81, Tryz.ntmps81
      go_wp2_with (first | (go_at_call 125; refine (cutS_any _ [90] _ (by omega)).mono ?_; rw [HZ2.out]; rintro e w1 ⟨rfl, rfl⟩) | (go_at_call 126; refine (indexB_any _ 84 _).mono ?_; rw [show Lib.indexByte (ByteArray.mk z.toArray).data.toList ((84 : Int).toNat.toUInt8) = at_ from HA.out]; rintro e w1 ⟨rfl, rfl⟩))
      go_returns
      rw [hB.out, hV.out]
      exact ⟨rfl, by go_grown⟩
  by_cases hc : shC s.data.toList = true
  · clear no
    have hc2 : Lib.hasSuffix s.data.toList [90] = true ∧ 7 ≤ at_ ∧ at_ + 9 ≤ z.length := by
      simpa [shC, HAT.out, HZ.out, and_assoc] using hc
    obtain ⟨c1, c2, c3⟩ := hc2
    obtain ⟨p, rfl⟩ : ∃ p : Nat, at_ = p := ⟨at_.toNat, by omega⟩
    have hp : (atT s.data.toList).toNat = p := by rw [HAT.out]; rfl
    have hY := Lib.hid (ext_data z 0 (p - 6) (shY s.data.toList) (by unfold shY; rw [hp, HZ.out]; simp))
    have hD := Lib.hid (ext_data z (p - 5) p (shD s.data.toList) (by unfold shD; rw [hp, HZ.out, show p - (p - 5) = 5 by omega]))
    have hTt := Lib.hid (ext_data z (p + 1) (p + 9) (shT s.data.toList) (by unfold shT; rw [hp, HZ.out, show p + 9 - (p + 1) = 8 by omega]))
    have hF := Lib.hid (ext_data z (p + 9) z.length (shF s.data.toList) (by unfold shF; rw [hp, HZ.out, List.take_of_length_le (by simp)]))
    have hS := Lib.hid (show (cutZ s.data.toList).getD ((atT s.data.toList).toNat - 6) 0 = z.getD (p - 6) 0 by rw [hp, HZ.out])
    clear hp
    go_enter Tryz.func81, Tryz.ntmps81
    go_wp2_with (first | (go_at_call 125; refine (cutS_any _ [90] _ (by omega)).mono ?_; rw [HZ2.out]; rintro e w1 ⟨rfl, rfl⟩) | (go_at_call 126; refine (indexB_any _ 84 _).mono ?_; rw [show Lib.indexByte (ByteArray.mk z.toArray).data.toList ((84 : Int).toNat.toUInt8) = (p : Int) from HA.out]; rintro e w1 ⟨rfl, rfl⟩))
    have hb0 : Below w.heap.size w ((w.alloc (.cells #[.int .i64 0, .int .i64 0, .int .i64 0] 29)).alloc (.cells #[.int .i64 0, .int .i64 0, .int .i64 0, .int .i64 0] 67)) := by go_grown
    have n0 := new_zero w
    generalize (w.alloc (.cells #[.int .i64 0, .int .i64 0, .int .i64 0] 29)).alloc (.cells #[.int .i64 0, .int .i64 0, .int .i64 0, .int .i64 0] 67) = wa at *
    refine (readYear_any _ _ (by rw [ext_size _ _ _ (by omega) (by omega)]; omega) (below_pow HT.out hb0)).mono ?_
    rw [hY.out]
    rintro e w1 ⟨rfl, hb1⟩
    go_wp2_with fail
    refine (two_said _ _ 1 45 45 rfl _ (by decide) (by rw [ext_size _ _ _ (by omega) (by omega)]; omega) hD.out).mono ?_
    rintro e w2 ⟨vd, rfl, hb2, hrd⟩
    go_wp2_with fail
    refine (two_said _ _ 2 58 58 rfl _ (by decide) (by rw [ext_size _ _ _ (by omega) (by omega)]; omega) hTt.out).mono ?_
    rintro e w3 ⟨vt, rfl, hb3, hrt⟩
    go_wp2_with fail
    have hb3' := below_two hb1 hb2 hb3 hb1.size
    have HT3 := Lib.hid (below_pow HT.out (hb0.trans (hb3'.mono hb0.size)))
    refine (readFraction_any _ _ (by rw [ext_size _ _ _ (by omega) (by omega)]; omega) HT3.out).mono ?_
    rw [hF.out]
    rintro e w4 ⟨rfl, hb4⟩
    have hbs := And.intro hb2.size (And.intro hb3.size hb1.size)
    have HRD := Lib.hid hrd
    have HRT := Lib.hid hrt
    clear hrd hrt
    have hb34 := hb4
    have hb24 : Below w2.heap.size w2 w4 := hb3.trans (hb4.mono hb3.size)
    have hb4' : Below wa.heap.size wa w4 := hb3'.trans (hb4.mono hb3'.size)
    have hbz : Below w.heap.size w w4 := hb0.trans (hb4'.mono hb0.size)
    have hd4 : w4.heap[w.heap.size]? = some (.cells #[.int .i64 0, .int .i64 0, .int .i64 0] 29 (0, 0)) := (hb4'.block _ (Nat.lt_of_succ_lt n0.2.2)).trans n0.1
    have ht4 : w4.heap[w.heap.size + 1]? = some (.cells #[.int .i64 0, .int .i64 0, .int .i64 0, .int .i64 0] 67 (0, 0)) := (hb4'.block _ n0.2.2).trans n0.2.1
    have d0 : w4.cell? ⟨w.heap.size, 0, none⟩ = some (.int .i64 0) := blk_cell hd4 0
    have d1 : w4.cell? ⟨w.heap.size, 1, none⟩ = some (.int .i64 0) := blk_cell hd4 1
    have d2 : w4.cell? ⟨w.heap.size, 2, none⟩ = some (.int .i64 0) := blk_cell hd4 2
    have t0 : w4.cell? ⟨w.heap.size + 1, 0, none⟩ = some (.int .i64 0) := blk_cell ht4 0
    have t1 : w4.cell? ⟨w.heap.size + 1, 1, none⟩ = some (.int .i64 0) := blk_cell ht4 1
    have t2 : w4.cell? ⟨w.heap.size + 1, 2, none⟩ = some (.int .i64 0) := blk_cell ht4 2
    have t3 : w4.cell? ⟨w.heap.size + 1, 3, none⟩ = some (.int .i64 0) := blk_cell ht4 3
    have fd := blk_free hd4; have ft := blk_free ht4
    have HN := Lib.hid n0
    have hz4 := hbz.size
    have HC := Lib.hid hc
    clear hd4 ht4 n0 hb1 hb2 hb3 hb4 hb3' hb0
    by_cases hg : shG s.data.toList = true
    · have hg' : ryB (shY s.data.toList) = true ∧ (twoL 45 (shD s.data.toList)).isSome = true ∧ (twoL 58 (shT s.data.toList)).isSome = true ∧ rfB (shF s.data.toList) = true ∧ z.getD (p - 6) 0 = 45 := by
        simp only [shG, hS.out, Bool.and_eq_true, beq_iff_eq, and_assoc] at hg
        exact hg
      obtain ⟨g1, g2, g3, g4, g5⟩ := hg'
      have hB := Lib.hid (show shB s.data.toList = true by simp [shB, HC.out, hg])
      clear hg
      have e6 : (((ByteArray.mk z.toArray)[p - 6]'(by simp [ByteArray.size]; omega)).toNat : Int) = 45 := by
        rw [List.getD_eq_getElem?_getD, List.getElem?_eq_getElem (show p - 6 < z.length by omega)] at g5
        simp only [Option.getD_some] at g5
        exact congrArg (fun (x : UInt8) => (x.toNat : Int)) g5
      have e7 : ((((ByteArray.mk z.toArray)[p - 6]'(by simp [ByteArray.size]; omega)).toNat : Int) != 45) = false := by rw [e6]; rfl
      clear g5 e6
      obtain ⟨zd, hzd⟩ := Option.isSome_iff_exists.1 g2
      obtain ⟨zt, hzt⟩ := Option.isSome_iff_exists.1 g3
      have hld := two_len _ (Nat.le_refl _) hzd
      have hlt := two_len _ (Nat.le_refl _) hzt
      have q1 : (shD s.data.toList).length = 5 := by rw [← hD.out, ext_list]; simp; omega
      have q2 : (shT s.data.toList).length = 8 := by rw [← hTt.out, ext_list]; simp; omega
      obtain ⟨gd, kd, rfl, hkd, hgd, hcd⟩ := int_row (HRD.out zd hzd) 2 (by omega) (by omega)
      obtain ⟨gt, kt, rfl, hkt, hgt, hct⟩ := int_row (HRT.out zt hzt) 3 (by omega) (by omega)
      have hz2 : w1.heap.size ≤ w2.heap.size := hbs.1
      have hd0 := Lib.hid (hcd 0 (nth (twoL 45 (shD s.data.toList)) 0) (by rw [nth_at hzd (by omega)]))
      have hd1 := Lib.hid (hcd 1 (nth (twoL 45 (shD s.data.toList)) 1) (by rw [nth_at hzd (by omega)]))
      have ht0 := Lib.hid (hct 0 (nth (twoL 58 (shT s.data.toList)) 0) (by rw [nth_at hzt (by omega)]))
      have ht1 := Lib.hid (hct 1 (nth (twoL 58 (shT s.data.toList)) 1) (by rw [nth_at hzt (by omega)]))
      have ht2 := Lib.hid (hct 2 (nth (twoL 58 (shT s.data.toList)) 2) (by rw [nth_at hzt (by omega)]))
      have x0 := below_cell hb24 hgd.2 hd0.out
      have x1 := below_cell hb24 hgd.2 hd1.out
      have y0 := below_cell hb34 hgt.2 ht0.out
      have y1 := below_cell hb34 hgt.2 ht1.out
      have y2 := below_cell hb34 hgt.2 ht2.out
      have hV := Lib.hid (show shV s.data.toList = ⟨ryV (shY s.data.toList), nth (twoL 45 (shD s.data.toList)) 0, nth (twoL 45 (shD s.data.toList)) 1, nth (twoL 58 (shT s.data.toList)) 0, nth (twoL 58 (shT s.data.toList)) 1, nth (twoL 58 (shT s.data.toList)) 2, rfV (shF s.data.toList)⟩ by simp [shV, hB.out])
      clear hcd hct hzd hzt hld hlt q1 q2
      go_wp2
      have n1 : gd ≠ w.heap.size := by have := HN.out.2.2; omega
      have n2 : gd ≠ w.heap.size + 1 := by have := HN.out.2.2; omega
      have n3 : gt ≠ w.heap.size := by have := HN.out.2.2; omega
      have n4 : gt ≠ w.heap.size + 1 := by have := HN.out.2.2; omega
      go_region_held3 (fun w' => w'.cell? ⟨gd, 0, none⟩ = some (.int .i64 (nth (twoL 45 (shD s.data.toList)) 0)) ∧ w'.cell? ⟨gd, 1, none⟩ = some (.int .i64 (nth (twoL 45 (shD s.data.toList)) 1)) ∧ w'.cell? ⟨gt, 0, none⟩ = some (.int .i64 (nth (twoL 58 (shT s.data.toList)) 0)) ∧ w'.cell? ⟨gt, 1, none⟩ = some (.int .i64 (nth (twoL 58 (shT s.data.toList)) 1)) ∧ w'.cell? ⟨gt, 2, none⟩ = some (.int .i64 (nth (twoL 58 (shT s.data.toList)) 2))) (refine ⟨?_, ?_, ?_, ?_, ?_⟩ <;> simp [World.cell?_setCell_far, n1.symm, n2.symm, n3.symm, n4.symm, x0, x1, y0, y1, y2]) (fail)
      go_wp2
      refine bodyPost_ret (v := .tuple #[.agg #[.int .i64 (ryV (shY s.data.toList)), .int .i64 (nth (twoL 45 (shD s.data.toList)) 0), .int .i64 (nth (twoL 45 (shD s.data.toList)) 1)], .agg #[.int .i64 (nth (twoL 58 (shT s.data.toList)) 0), .int .i64 (nth (twoL 58 (shT s.data.toList)) 1), .int .i64 (nth (twoL 58 (shT s.data.toList)) 2), .int .i64 (rfV (shF s.data.toList))], .bool true]) ?_ rfl ?_
      · simp [results, Tryz.results81, go_sem, World.cell?_setCell_same', World.cell?_setCell_other, d0, d1, d2, t0, t1, t2, t3]
      · rw [hB.out, hV.out]
        exact ⟨rfl, by go_grown⟩
    · have hB := Lib.hid (show shB s.data.toList = false by simp [shB, hg])
      have hV := Lib.hid (sh_no hB.out)
      have h5 : ryB (shY s.data.toList) = false ∨ (ryB (shY s.data.toList) = true ∧ ((twoL 45 (shD s.data.toList)).isSome = false ∨ ((twoL 45 (shD s.data.toList)).isSome = true ∧ ((twoL 58 (shT s.data.toList)).isSome = false ∨ ((twoL 58 (shT s.data.toList)).isSome = true ∧ (rfB (shF s.data.toList) = false ∨ (rfB (shF s.data.toList) = true ∧ z.getD (p - 6) 0 ≠ 45))))))) := by
        rw [Bool.not_eq_true] at hg
        simp only [shG, hS.out] at hg
        revert hg
        cases ryB (shY s.data.toList) <;> cases (twoL 45 (shD s.data.toList)).isSome <;> cases (twoL 58 (shT s.data.toList)).isSome <;> cases rfB (shF s.data.toList) <;> simp
      clear hg
      rcases h5 with e1 | ⟨e1, e2 | ⟨e2, e3 | ⟨e3, e4 | ⟨e4, e5⟩⟩⟩⟩
      · go_wp2
        refine bodyPost_ret (v := .tuple #[.agg #[.int .i64 0, .int .i64 0, .int .i64 0], .agg #[.int .i64 0, .int .i64 0, .int .i64 0, .int .i64 0], .bool false]) ?_ rfl ?_
        · simp [results, Tryz.results81, go_sem, World.cell?_setCell_same', World.cell?_setCell_other, d0, d1, d2, t0, t1, t2, t3]
        · rw [hB.out, hV.out]
          exact ⟨rfl, by go_grown⟩
      · go_wp2
        refine bodyPost_ret (v := .tuple #[.agg #[.int .i64 0, .int .i64 0, .int .i64 0], .agg #[.int .i64 0, .int .i64 0, .int .i64 0, .int .i64 0], .bool false]) ?_ rfl ?_
        · simp [results, Tryz.results81, go_sem, World.cell?_setCell_same', World.cell?_setCell_other, d0, d1, d2, t0, t1, t2, t3]
        · rw [hB.out, hV.out]
          exact ⟨rfl, by go_grown⟩
      · go_wp2
        refine bodyPost_ret (v := .tuple #[.agg #[.int .i64 0, .int .i64 0, .int .i64 0], .agg #[.int .i64 0, .int .i64 0, .int .i64 0, .int .i64 0], .bool false]) ?_ rfl ?_
        · simp [results, Tryz.results81, go_sem, World.cell?_setCell_same', World.cell?_setCell_other, d0, d1, d2, t0, t1, t2, t3]
        · rw [hB.out, hV.out]
          exact ⟨rfl, by go_grown⟩
      · go_wp2
        refine bodyPost_ret (v := .tuple #[.agg #[.int .i64 0, .int .i64 0, .int .i64 0], .agg #[.int .i64 0, .int .i64 0, .int .i64 0, .int .i64 0], .bool false]) ?_ rfl ?_
        · simp [results, Tryz.results81, go_sem, World.cell?_setCell_same', World.cell?_setCell_other, d0, d1, d2, t0, t1, t2, t3]
        · rw [hB.out, hV.out]
          exact ⟨rfl, by go_grown⟩
      · have e6 : (((ByteArray.mk z.toArray)[p - 6]'(by simp [ByteArray.size]; omega)).toNat : Int) ≠ 45 := by
          intro h
          apply e5
          rw [List.getD_eq_getElem?_getD, List.getElem?_eq_getElem (show p - 6 < z.length by omega)]
          apply UInt8.toNat_inj.1
          simp only [Option.getD_some]
          exact Int.ofNat.inj h
        have e7 : ((((ByteArray.mk z.toArray)[p - 6]'(by simp [ByteArray.size]; omega)).toNat : Int) != 45) = true := by rw [bne_iff_ne]; exact e6
        clear e5
        go_wp2
        refine bodyPost_ret (v := .tuple #[.agg #[.int .i64 0, .int .i64 0, .int .i64 0], .agg #[.int .i64 0, .int .i64 0, .int .i64 0, .int .i64 0], .bool false]) ?_ rfl ?_
        · simp [results, Tryz.results81, go_sem, World.cell?_setCell_same', World.cell?_setCell_other, d0, d1, d2, t0, t1, t2, t3]
        · rw [hB.out, hV.out]
          exact ⟨rfl, by go_grown⟩
  · exact no (by simpa using hc)
end Go.Proofs.YtapbfkofoamaaaaGreatDoor
