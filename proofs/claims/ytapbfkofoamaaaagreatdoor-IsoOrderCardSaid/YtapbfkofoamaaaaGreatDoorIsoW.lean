/- What the calls of iso come to. -/
import Derived.Test.YtapbfkofoamaaaaGreatDoorLb
import Derived.Test.YtapbfkofoamaaaaGreatDoorCalW
import Derived.Test.YtapbfkofoamaaaaGreatDoorIsoP
namespace Go.Proofs.YtapbfkofoamaaaaGreatDoor
open Go.RowKit
set_option linter.unusedVariables false
set_option linter.unusedSimpArgs false

set_option maxHeartbeats 400000 in
theorem pad_any (n : Int) (h0 : -9223372036854775808 ≤ n) (h1 : n ≤ 9223372036854775807) (width : Nat) (wd : Int) (hwd : wd = width) (hw : width ≤ 100) (w : World) (hT : TabPow w) :
    Calls Tryz.prog 41 #[.int .i64 n, .int .i64 wd] w fun e w' => e = .returned (.string ⟨(padL n width).toArray⟩) ∧ Below w.heap.size w w' := by
  subst hwd
  have hl := Lib.itoa_length_le n h0 h1
  have HT := Lib.hid hT
  clear hT
  go_enter Tryz.func41, Tryz.ntmps41
  go_wp2_with fail
  refine (itoa_any n h0 h1 _ HT.out).mono ?_
  rintro e w1 ⟨rfl, hb1⟩
  go_wp2_with fail
  rw [show max ((width : Int) - ((Lib.itoa n).length : Int)) 0 = ((width - (Lib.itoa n).length : Nat) : Int) from by omega]
  have hR := repeat_any [48] (width - (Lib.itoa n).length) w1 (by omega) (by simp; omega)
  refine hR.mono ?_
  rintro e w2 ⟨rfl, hb2⟩
  have hl2 : (Lib.repeatL [48] (width - (Lib.itoa n).length)).length ≤ 100 := by rw [Lib.repeatL_length]; simp; omega
  generalize hr : Lib.repeatL [48] (width - (Lib.itoa n).length) = r at hl2 ⊢
  have HR := Lib.hid hr
  clear hr
  go_wp2
  go_ret
  exact ⟨ret_str (by simp [padL, HR.out]), below_next hb1 hb2⟩

set_option maxHeartbeats 400000 in
theorem year_any (n : Int) (h0 : -9223372036854775807 ≤ n) (h1 : n ≤ 9223372036854775807) (w : World) (hT : TabPow w) :
    Calls Tryz.prog 40 #[.int .i64 n] w fun e w' => e = .returned (.string ⟨(yearL n).toArray⟩) ∧ Below w.heap.size w w' := by
  have HT := Lib.hid hT
  clear hT
  have hp1 := padL_len n (by omega) h1 4 (by omega)
  have hp2 := padL_len (-n) (by omega) (by omega) 4 (by omega)
  by_cases c1 : n < 0
  · go_enter Tryz.func40, Tryz.ntmps40
    go_wp2_with fail
    refine (pad_any _ (by omega) (by omega) 4 4 rfl (by omega) _ HT.out).mono ?_
    rintro e w1 ⟨rfl, hb1⟩
    go_wp2
    go_ret
    exact ⟨ret_str (by simp [yearL, c1]), hb1⟩
  · by_cases c2 : 9999 < n
    · go_enter Tryz.func40, Tryz.ntmps40
      go_wp2_with fail
      refine (pad_any _ (by omega) (by omega) 4 4 rfl (by omega) _ HT.out).mono ?_
      rintro e w1 ⟨rfl, hb1⟩
      go_wp2
      go_ret
      exact ⟨ret_str (by simp [yearL, c1, c2]), hb1⟩
    · go_enter Tryz.func40, Tryz.ntmps40
      go_wp2_with fail
      refine (pad_any _ (by omega) (by omega) 4 4 rfl (by omega) _ HT.out).mono ?_
      rintro e w1 ⟨rfl, hb1⟩
      go_wp2
      go_ret
      exact ⟨ret_str (by simp only [yearL]; rw [if_neg (by omega), if_neg (by omega)]), hb1⟩

set_option maxHeartbeats 400000 in
theorem fraction_any (n : Int) (h0 : 0 ≤ n) (h1 : n ≤ 9223372036854775807) (w : World) (hT : TabPow w) :
    Calls Tryz.prog 42 #[.int .i64 n] w fun e w' => e = .returned (.string ⟨(fracL n).toArray⟩) ∧ Below w.heap.size w w' := by
  have HT := Lib.hid hT
  clear hT
  by_cases c1 : n = 0
  · subst c1
    go_enter Tryz.func42, Tryz.ntmps42
    go_wp2
    go_ret
    exact ⟨rfl, Below.refl _ _⟩
  · have hp := padL_len n (by omega) h1 18 (by omega)
    have hf : fracL n = 46 :: Lib.trimRightB (padL n 18) 48 := by simp [fracL, c1]
    have HF := Lib.hid hf
    clear hf
    have ht := trimR_len (padL n 18) 48
    go_enter Tryz.func42, Tryz.ntmps42
    go_wp2_with fail
    refine (pad_any _ (by omega) (by omega) 18 18 rfl (by omega) _ HT.out).mono ?_
    rintro e w1 ⟨rfl, hb1⟩
    go_wp2_with fail
    refine (trimR_any (padL n 18) 48 (by decide) _ (by omega)).mono ?_
    rintro e w2 ⟨rfl, rfl⟩
    go_wp2
    go_ret
    exact ⟨ret_str (by simp [HF.out]), hb1⟩

set_option maxHeartbeats 1000000 in
theorem print_any (d s a : Int) (w : World) (hT : TabPow w) :
    Calls Tryz.prog 15 #[.agg #[.int .i64 d, .int .i64 s, .int .i64 a]] w fun e w' => e = .returned (.tuple #[.string ⟨(printL d s a).toArray⟩, .int .i64 (printE d s a)]) ∧ Below w.heap.size w w' := by
  have HT := Lib.hid hT
  clear hT
  by_cases c1 : tOk s a = true
  · have ht := t_bd c1
    obtain ⟨h1, h2, h3, h4, h5, h6, h7, h8, h9⟩ := ht
    by_cases c2 : nOk d = true
    · have hg := g_bd c2
      obtain ⟨g1, g2, g3, g4, g5, g6, g7⟩ := hg
      have HE := Lib.hid (And.intro h9 g7)
      clear h9 g7
      go_enter Tryz.func15, Tryz.ntmps15
      go_wp2_with fail
      refine (time_any _ _ _).mono ?_
      rintro e w1 ⟨rfl, hb1⟩
      rw [HE.out.1]
      obtain ⟨hc1, hf1⟩ := bcell hb1
      have hz1 := hb1.size
      simp only [World.size_alloc] at hz1
      have hy1 : w.heap.size < w1.heap.size := hz1
      go_wp2_with fail
      refine (date_any _ _).mono ?_
      rintro e w2 ⟨rfl, hb2⟩
      rw [HE.out.2]
      obtain ⟨hc2, hf2⟩ := bcell hb2
      have hz2 := hb2.size
      simp only [World.size_alloc, World.size_setCell] at hz2
      have hy2 : w1.heap.size < w2.heap.size := hz2
      have hy3 : w.heap.size < w2.heap.size := by omega
      go_wp2_with fail
      have d0 : (w2.alloc (.cells #[.int .i64 (gYo d), .int .i64 (gMo d), .int .i64 (gDo d)] 29)).cell? ⟨w2.heap.size, 0, none⟩ = some (.int .i64 (gYo d)) := by go_simp
      have d1 : (w2.alloc (.cells #[.int .i64 (gYo d), .int .i64 (gMo d), .int .i64 (gDo d)] 29)).cell? ⟨w2.heap.size, 1, none⟩ = some (.int .i64 (gMo d)) := by go_simp
      have d2 : (w2.alloc (.cells #[.int .i64 (gYo d), .int .i64 (gMo d), .int .i64 (gDo d)] 29)).cell? ⟨w2.heap.size, 2, none⟩ = some (.int .i64 (gDo d)) := by go_simp
      have d3 : (w2.alloc (.cells #[.int .i64 (gYo d), .int .i64 (gMo d), .int .i64 (gDo d)] 29)).cell? ⟨w1.heap.size, 0, none⟩ = some (.int .i64 (tH s a)) := by go_simp
      have d4 : (w2.alloc (.cells #[.int .i64 (gYo d), .int .i64 (gMo d), .int .i64 (gDo d)] 29)).cell? ⟨w1.heap.size, 1, none⟩ = some (.int .i64 (tM s a)) := by go_simp
      have d5 : (w2.alloc (.cells #[.int .i64 (gYo d), .int .i64 (gMo d), .int .i64 (gDo d)] 29)).cell? ⟨w1.heap.size, 2, none⟩ = some (.int .i64 (tS s a)) := by go_simp
      have d6 : (w2.alloc (.cells #[.int .i64 (gYo d), .int .i64 (gMo d), .int .i64 (gDo d)] 29)).cell? ⟨w1.heap.size, 3, none⟩ = some (.int .i64 (tA s a)) := by go_simp
      have hba : Below w.heap.size w (w2.alloc (.cells #[.int .i64 (gYo d), .int .i64 (gMo d), .int .i64 (gDo d)] 29)) := by
        have k1 : Below w.heap.size w (w1.alloc (.cells #[.int .i64 (tH s a), .int .i64 (tM s a), .int .i64 (tS s a), .int .i64 (tA s a)] 67)) := (below_box hb1).alloc (by omega) _
        exact (k1.trans (hb2.mono (by simp; omega))).alloc (by omega) _
      have hsz : w2.heap.size < (w2.alloc (.cells #[.int .i64 (gYo d), .int .i64 (gMo d), .int .i64 (gDo d)] 29)).heap.size := by simp
      have HTa := Lib.hid (below_pow HT.out hba)
      generalize w2.alloc (.cells #[.int .i64 (gYo d), .int .i64 (gMo d), .int .i64 (gDo d)] 29) = wa at *
      clear hc1 hf1 hc2 hf2 hb1 hb2
      have e0 : ∀ w', Below wa.heap.size wa w' → w'.cell? ⟨w2.heap.size, 0, none⟩ = some (.int .i64 (gYo d)) := fun w' h => below_cell h (by omega) d0
      have e1 : ∀ w', Below wa.heap.size wa w' → w'.cell? ⟨w2.heap.size, 1, none⟩ = some (.int .i64 (gMo d)) := fun w' h => below_cell h (by omega) d1
      have e2 : ∀ w', Below wa.heap.size wa w' → w'.cell? ⟨w2.heap.size, 2, none⟩ = some (.int .i64 (gDo d)) := fun w' h => below_cell h (by omega) d2
      have e3 : ∀ w', Below wa.heap.size wa w' → w'.cell? ⟨w1.heap.size, 0, none⟩ = some (.int .i64 (tH s a)) := fun w' h => below_cell h (by omega) d3
      have e4 : ∀ w', Below wa.heap.size wa w' → w'.cell? ⟨w1.heap.size, 1, none⟩ = some (.int .i64 (tM s a)) := fun w' h => below_cell h (by omega) d4
      have e5 : ∀ w', Below wa.heap.size wa w' → w'.cell? ⟨w1.heap.size, 2, none⟩ = some (.int .i64 (tS s a)) := fun w' h => below_cell h (by omega) d5
      have e6 : ∀ w', Below wa.heap.size wa w' → w'.cell? ⟨w1.heap.size, 3, none⟩ = some (.int .i64 (tA s a)) := fun w' h => below_cell h (by omega) d6
      clear d0 d1 d2 d3 d4 d5 d6
      go_region_held3 (fun w' => Below wa.heap.size wa w') (first | exact (Below.refl _ _).drew | exact below_next (by assumption) hb | exact below_more (by assumption))
        (first | (go_at_call 40; refine (year_any _ (by omega) (by omega) _ (below_pow HTa.out (by assumption))).mono ?_; rintro e wn ⟨rfl, hb⟩) | (go_at_call 42; refine (fraction_any _ (by omega) (by omega) _ (below_pow HTa.out (by assumption))).mono ?_; rintro e wn ⟨rfl, hb⟩) | (go_at_call 41; refine (pad_any _ (by omega) (by omega) 2 2 rfl (by omega) _ (below_pow HTa.out (by assumption))).mono ?_; rintro e wn ⟨rfl, hb⟩))
      rename_i hS
      go_wp2_with fail
      have l1 := year_len (gYo d) (by omega) (by omega)
      have l2 := padL_len (gMo d) (by omega) (by omega) 2 (by omega)
      have l3 := padL_len (gDo d) (by omega) (by omega) 2 (by omega)
      have l4 := padL_len (tH s a) (by omega) (by omega) 2 (by omega)
      have l5 := padL_len (tM s a) (by omega) (by omega) 2 (by omega)
      have l6 := padL_len (tS s a) (by omega) (by omega) 2 (by omega)
      have l7 := frac_len (tA s a) (by omega) (by omega)
      refine (join_any _ 0 13 13 [yearL (gYo d), [45], padL (gMo d) 2, [45], padL (gDo d) 2, [84], padL (tH s a) 2, [58], padL (tM s a) 2, [58], padL (tS s a) 2, fracL (tA s a), [90]] [] _ rfl (new_row _ _ rfl) (by simp) (by simp) (by decide) ?_).mono ?_
      · rw [join_flat]; simp; omega
      rintro e wj ⟨rfl, hj⟩
      go_wp2
      go_ret2
      have hp : printL d s a = labelL d s a := by simp [printL, c1, c2]
      have he : printE d s a = 0 := by simp [printE, c1, c2]
      rw [hp, he, join_flat]
      refine ⟨?_, (hba.trans (hS.mono (by omega))).trans (hj.mono (Nat.le_trans (show w.heap.size ≤ wa.heap.size by omega) hS.size))⟩
      simp [labelL]
    · have c3 : nOk d = false := by simpa using c2
      have hp : printL d s a = [] ∧ printE d s a = 2 := by simp [printL, printE, c1, c2]
      have hg := g_no c3
      have HE := Lib.hid (And.intro h9 hg.2.2.2)
      have HP := Lib.hid hp
      clear h9 hp hg
      go_enter Tryz.func15, Tryz.ntmps15
      go_wp2_with fail
      refine (time_any _ _ _).mono ?_
      rintro e w1 ⟨rfl, hb1⟩
      rw [HE.out.1]
      obtain ⟨hc1, hf1⟩ := bcell hb1
      have hz1 := hb1.size
      simp only [World.size_alloc] at hz1
      have hy1 : w.heap.size < w1.heap.size := hz1
      go_wp2_with fail
      refine (date_any _ _).mono ?_
      rintro e w2 ⟨rfl, hb2⟩
      rw [HE.out.2]
      have k1 : Below w.heap.size w (w1.alloc (.cells #[.int .i64 (tH s a), .int .i64 (tM s a), .int .i64 (tS s a), .int .i64 (tA s a)] 67)) := (below_box hb1).alloc (by omega) _
      have hb := k1.trans (hb2.mono (by simp; omega))
      have hz2 := hb2.size
      simp only [World.size_alloc] at hz2
      clear hc1 hf1 hb1 hb2 k1
      go_wp2_with fail
      go_ret2
      rw [HP.out.1, HP.out.2]
      exact ⟨rfl, hb.alloc (by omega) _⟩
  · have c3 : tE s a = 1 := by simp [tE, c1]
    have hp : printL d s a = [] ∧ printE d s a = 1 := by simp [printL, printE, c1]
    have HE := Lib.hid c3
    have HP := Lib.hid hp
    clear c3 hp
    go_enter Tryz.func15, Tryz.ntmps15
    go_wp2_with fail
    refine (time_any _ _ _).mono ?_
    rintro e w1 ⟨rfl, hb1⟩
    rw [HE.out]
    have hb := below_box hb1
    have hz := hb.size
    clear hb1
    go_wp2_with fail
    go_ret2
    rw [HP.out.1, HP.out.2]
    exact ⟨rfl, hb.alloc hz _⟩
end Go.Proofs.YtapbfkofoamaaaaGreatDoor
