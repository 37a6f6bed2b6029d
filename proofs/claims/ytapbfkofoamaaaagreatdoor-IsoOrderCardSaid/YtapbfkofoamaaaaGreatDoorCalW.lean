/- What the calls of face and greg come to. -/
import Derived.Test.YtapbfkofoamaaaaGreatDoorBase
import Derived.Test.YtapbfkofoamaaaaGreatDoorCalP
namespace Go.Proofs.YtapbfkofoamaaaaGreatDoor
open Go.RowKit
set_option linter.unusedVariables false
set_option linter.unusedSimpArgs false

theorem tmod_pos {a b : Int} (h : 0 ≤ a) : a.tmod b = a % b := Int.tmod_eq_emod_of_nonneg h
theorem tdiv_pos {a b : Int} (h : 0 ≤ a) : a.tdiv b = a / b := Int.tdiv_eq_ediv_of_nonneg h

set_option maxHeartbeats 400000 in
theorem within_any (n e : Int) (w : World) :
    Calls Tryz.prog 74 #[.int .i64 n, .int .i64 e] w fun r w' => r = .returned (.bool (win n e)) ∧ w = w' := by
  by_cases h : 0 ≤ n <;> by_cases h2 : n < e
  all_goals
    go_enter Tryz.func74, Tryz.ntmps74
    go_wp2
    go_ret
    exact ⟨congrArg (fun b => Ending.returned (.bool b)) (by simp [win, h, h2] <;> omega), rfl⟩

set_option maxHeartbeats 400000 in
theorem start_any (h m s a : Int) (hh : 0 ≤ h ∧ h < 24) (hm : 0 ≤ m ∧ m < 60) (w : World) :
    Calls Tryz.prog 131 #[.agg #[.int .i64 h, .int .i64 m, .int .i64 s, .int .i64 a]] w fun r w' => r = .returned (.int .i64 (h * 3600 + m * 60)) ∧ Below w.heap.size w w' := by
  obtain ⟨h1, h2⟩ := hh
  obtain ⟨h3, h4⟩ := hm
  go_enter Tryz.func131, Tryz.ntmps131
  go_wp2
  go_ret
  exact ⟨rfl, by go_grown⟩

theorem win_true {n e : Int} (h : win n e = true) : 0 ≤ n ∧ n < e := by simpa [win] using h
theorem win_false {n e : Int} (h : ¬ win n e = true) : ¬ (0 ≤ n ∧ n < e) := fun k => h (by simpa [win] using k)
set_option maxHeartbeats 1000000 in
theorem valid_time (h m s a : Int) (w : World) :
    Calls Tryz.prog 83 #[.agg #[.int .i64 h, .int .i64 m, .int .i64 s, .int .i64 a]] w fun r w' => r = .returned (.bool (hOk h m s a)) ∧ Below w.heap.size w w' := by
  go_enter Tryz.func83, Tryz.ntmps83
  go_wp2_with (first | (go_at_call 74; refine (within_any _ _ _).mono ?_; rintro e w' ⟨rfl, rfl⟩))
  case isTrue =>
    have q1 := win_true (n := h) (e := 24) (by assumption)
    have q2 := win_true (n := m) (e := 60) (by assumption)
    have q3 : win a 1000000000000000000 = true := by simp_all
    have q4 := win_true q3
    refine (start_any h m _ a q1 q2 _).mono ?_
    rintro e w' ⟨rfl, hb⟩
    go_wp2
    go_ret
    refine ⟨ret_bool ?_, below_box hb⟩
    clear hb
    simp only [hOk]
    rw [Bool.eq_iff_iff]
    simp
    omega
  all_goals go_ret; exact ⟨ret_bool (by simp_all [hOk, win] <;> omega), by go_grown⟩

set_option maxHeartbeats 1000000 in
theorem sec_any (h m s a : Int) (w : World) :
    Calls Tryz.prog 85 #[.agg #[.int .i64 h, .int .i64 m, .int .i64 s, .int .i64 a]] w fun r w' => r = .returned (.tuple #[.int .i64 (hSec h m s a), .int .i64 (hAtto h m s a), .int .i64 (hE h m s a)]) ∧ Below w.heap.size w w' := by
  go_enter Tryz.func85, Tryz.ntmps85
  go_wp2_with (first | (go_at_call 83; refine (valid_time _ _ _ _ _).mono ?_; rintro e w1 ⟨rfl, hb1⟩))
  · go_ret3
    have q : hOk h m s a = false := by simp_all
    exact ⟨ret_iii (by simp [hSec, q]) (by simp [hAtto, q]) (by simp [hE, q]), below_box hb1⟩
  · have q : hOk h m s a = true := by simp_all
    have q' := q
    simp only [hOk, decide_eq_true_eq] at q'
    obtain ⟨q1, q2, q3, q4, q5, q6, q7⟩ := q'
    have c0 : w1.cell? ⟨w.heap.size, 0, none⟩ = some (.int .i64 h) := (hb1.cell (p := ⟨w.heap.size, 0, none⟩) (by simp)).trans (by go_simp)
    have c1 : w1.cell? ⟨w.heap.size, 1, none⟩ = some (.int .i64 m) := (hb1.cell (p := ⟨w.heap.size, 1, none⟩) (by simp)).trans (by go_simp)
    have c2 : w1.cell? ⟨w.heap.size, 2, none⟩ = some (.int .i64 s) := (hb1.cell (p := ⟨w.heap.size, 2, none⟩) (by simp)).trans (by go_simp)
    have c3 : w1.cell? ⟨w.heap.size, 3, none⟩ = some (.int .i64 a) := (hb1.cell (p := ⟨w.heap.size, 3, none⟩) (by simp)).trans (by go_simp)
    have hb := below_box hb1
    have hz := hb1.size
    simp only [World.size_alloc] at hz
    clear hb1
    go_region_held3 (fun w' => w'.cell? ⟨w.heap.size, 0, none⟩ = some (.int .i64 h) ∧ w'.cell? ⟨w.heap.size, 1, none⟩ = some (.int .i64 m) ∧ w'.cell? ⟨w.heap.size, 2, none⟩ = some (.int .i64 s) ∧ w'.cell? ⟨w.heap.size, 3, none⟩ = some (.int .i64 a) ∧ w.heap.size + 1 ≤ w'.heap.size ∧ Below w.heap.size w w')
      (first | exact ⟨c0, c1, c2, c3, hz, hb.drew⟩ | exact ⟨below_cell hb2 hz c0, below_cell hb2 hz c1, below_cell hb2 hz c2, below_cell hb2 hz c3, Nat.le_trans hz hb2.size, hb.drew.trans (hb2.mono (Nat.le_of_succ_le hz))⟩)
      (first | (go_at_call 131; refine (start_any h m s a ⟨q1, q2⟩ ⟨q3, q4⟩ _).mono ?_; rintro e w2 ⟨rfl, hb2⟩))
    rename_i hS
    obtain ⟨-, -, -, -, -, hB⟩ := hS
    have s1 : 0 ≤ s := by omega
    have s2 : s ≤ 60 := by omega
    go_wp2
    go_ret3
    exact ⟨ret_iii (by simp [hSec, q]; go_arith) (by simp [hAtto, q]) (by simp [hE, q]), hB⟩

theorem ret_time {a b c d e a' b' c' d' e' : Int} (h1 : a = a') (h2 : b = b') (h3 : c = c') (h4 : d = d') (h5 : e = e') : Ending.returned (.tuple #[.agg #[.int .i64 a, .int .i64 b, .int .i64 c, .int .i64 d], .int .i64 e]) = .returned (.tuple #[.agg #[.int .i64 a', .int .i64 b', .int .i64 c', .int .i64 d'], .int .i64 e']) := by rw [h1, h2, h3, h4, h5]

set_option maxHeartbeats 1000000 in
theorem time_any (s a : Int) (w : World) :
    Calls Tryz.prog 38 #[.int .i64 s, .int .i64 a] w fun r w' => r = .returned (.tuple #[.agg #[.int .i64 (tH s a), .int .i64 (tM s a), .int .i64 (tS s a), .int .i64 (tA s a)], .int .i64 (tE s a)]) ∧ Below w.heap.size w w' := by
  by_cases q2 : win s 86401 = true
  · by_cases q3 : win a 1000000000000000000 = true
    · have a1 := win_true q3
      have s1 := win_true q2
      by_cases h3 : s ≤ 86399
      · have T := Lib.hid (t_lo s1.1 h3 a1.1 a1.2)
        obtain ⟨s2, s3⟩ := s1
        go_enter Tryz.func38, Tryz.ntmps38
        go_wp2_with (go_at_call 74; refine (within_any _ _ _).mono ?_; rintro e w' ⟨rfl, rfl⟩)
        go_returns
        obtain ⟨e1, e2, e3, e4, e5⟩ := T.out
        exact ⟨ret_time (by rw [e1] <;> go_arith) (by rw [e2] <;> go_arith) (by rw [e3] <;> go_arith) (by rw [e4]) (by rw [e5]), by go_grown⟩
      · obtain rfl : s = 86400 := by omega
        have T := Lib.hid (t_hi a1.1 a1.2)
        clear s1 h3
        go_enter Tryz.func38, Tryz.ntmps38
        go_wp2_with (go_at_call 74; refine (within_any _ _ _).mono ?_; rintro e w' ⟨rfl, rfl⟩)
        go_returns
        obtain ⟨e1, e2, e3, e4, e5⟩ := T.out
        exact ⟨ret_time (by rw [e1]) (by rw [e2]) (by rw [e3]) (by rw [e4]) (by rw [e5]), by go_grown⟩
    · have T := Lib.hid (t_no (s := s) (a := a) (Or.inr (by simpa using q3)))
      go_enter Tryz.func38, Tryz.ntmps38
      go_wp2_with (go_at_call 74; refine (within_any _ _ _).mono ?_; rintro e w' ⟨rfl, rfl⟩)
      go_returns
      obtain ⟨e1, e2, e3, e4, e5⟩ := T.out
      exact ⟨ret_time (by rw [e1]) (by rw [e2]) (by rw [e3]) (by rw [e4]) (by rw [e5]), by go_grown⟩
  · have T := Lib.hid (t_no (s := s) (a := a) (Or.inl (by simpa using q2)))
    go_enter Tryz.func38, Tryz.ntmps38
    go_wp2_with (go_at_call 74; refine (within_any _ _ _).mono ?_; rintro e w' ⟨rfl, rfl⟩)
    go_returns
    obtain ⟨e1, e2, e3, e4, e5⟩ := T.out
    exact ⟨ret_time (by rw [e1]) (by rw [e2]) (by rw [e3]) (by rw [e4]) (by rw [e5]), by go_grown⟩

theorem ret_date {a b c e a' b' c' e' : Int} (h1 : a = a') (h2 : b = b') (h3 : c = c') (h5 : e = e') : Ending.returned (.tuple #[.agg #[.int .i64 a, .int .i64 b, .int .i64 c], .int .i64 e]) = .returned (.tuple #[.agg #[.int .i64 a', .int .i64 b', .int .i64 c'], .int .i64 e']) := by rw [h1, h2, h3, h5]

set_option maxHeartbeats 400000 in
theorem in_any (n : Int) (w : World) : Calls Tryz.prog 75 #[.int .i64 n] w fun r w' => r = .returned (.bool (nOk n)) ∧ w = w' := by
  by_cases h : -1099511627776 ≤ n <;> by_cases h2 : n ≤ 1099511627776
  all_goals
    go_enter Tryz.func75, Tryz.ntmps75
    go_wp2
    go_ret
    exact ⟨ret_bool (by simp [nOk, h, h2] <;> omega), rfl⟩

set_option maxHeartbeats 400000 in
theorem floor_any (a b : Int) (hb : 0 < b) (hb2 : b ≤ 1000000) (h1 : -1000000000000000 ≤ a) (h2 : a ≤ 1000000000000000) (w : World) : Calls Tryz.prog 76 #[.int .i64 a, .int .i64 b] w fun r w' => r = .returned (.int .i64 (a / b)) ∧ w = w' := by
  have h3 := ediv_big hb h1 h2
  obtain ⟨h4, h5⟩ := h3
  go_enter Tryz.func76, Tryz.ntmps76
  go_wp2
  · go_ret
    refine ⟨ret_int ?_, rfl⟩
    have := floor_lo hb (a := a) (by assumption)
    unfold wrap64
    omega
  · go_ret
    exact ⟨ret_int (floor_hi hb (by assumption)), rfl⟩

set_option maxHeartbeats 400000 in
theorem leap_any (y : Int) (w : World) : Calls Tryz.prog 169 #[.int .i64 y] w fun r w' => r = .returned (.bool (leap y)) ∧ w = w' := by
  go_enter Tryz.func169, Tryz.ntmps169
  go_wp2
  all_goals
    go_ret
    refine ⟨ret_bool ?_, rfl⟩
    unfold leap
    simp_all [tmod_zero]
    try grind [tmod_zero]

/-- The table of the months' lengths. -/
def TabLen (w : World) : Prop := Lib.TabIs Tryz.prog w "epact/greg.lengths" .i64 monthLens
theorem gLen : Tryz.prog.globalNamed "epact/greg.lengths" = some 0 := by kernel_rfl

set_option maxHeartbeats 400000 in
theorem length_any (y m : Int) (w : World) (hT : TabLen w) : Calls Tryz.prog 130 #[.int .i64 y, .int .i64 m] w fun r w' => r = .returned (.int .i64 (mlen y m)) ∧ w = w' := by
  have HT := Lib.hid hT
  clear hT
  by_cases c1 : m < 1
  · go_enter Tryz.func130, Tryz.ntmps130
    go_wp2
    go_ret
    exact ⟨ret_int (by simp [mlen, c1]), rfl⟩
  · by_cases c2 : 12 < m
    · go_enter Tryz.func130, Tryz.ntmps130
      go_wp2
      go_ret
      exact ⟨ret_int (by simp [mlen, c2]), rfl⟩
    · obtain ⟨j, rfl⟩ : ∃ j : Nat, m = j + 1 := ⟨(m - 1).toNat, by omega⟩
      have hj : j < 12 := by omega
      have hc := HT.out.cell gLen j hj
      by_cases c3 : j = 1
      · subst c3
        go_enter Tryz.func130, Tryz.ntmps130
        go_wp2_with (go_at_call 169; refine (leap_any _ _).mono ?_; rintro e w' ⟨rfl, rfl⟩)
        all_goals go_ret
        all_goals exact ⟨ret_int (by simp_all [mlen, monthLens]), rfl⟩
      · have c4 : ((j : Int) + 1 == 2) = false := by rw [beq_eq_false_iff_ne]; omega
        go_enter Tryz.func130, Tryz.ntmps130
        go_wp2_with (go_at_call 169; refine (leap_any _ _).mono ?_; rintro e w' ⟨rfl, rfl⟩)
        go_ret
        refine ⟨ret_int ?_, rfl⟩
        simp only [mlen]
        rw [if_neg (by omega), if_neg (by omega), show ((j : Int) + 1 - 1).toNat = j from by omega]
        rfl

theorem below_tab {w w' : World} (h : TabLen w) (hb : Below w.heap.size w w') : TabLen w' := var?_below hb gLen (World.block_lt_of_cell? w ⟨_, 0, none⟩ (h.cell gLen 0 (by decide))) h

set_option maxHeartbeats 400000 in
theorem valid_date (y m d : Int) (w : World) (hT : TabLen w) : Calls Tryz.prog 82 #[.agg #[.int .i64 y, .int .i64 m, .int .i64 d]] w fun r w' => r = .returned (.bool (dOk y m d)) ∧ Below w.heap.size w w' := by
  have HT := Lib.hid (below_tab hT ((Below.refl _ _).alloc (Nat.le_refl _) (.cells #[.int .i64 y, .int .i64 m, .int .i64 d] 29)))
  clear hT
  by_cases h : 1 ≤ d
  · go_enter Tryz.func82, Tryz.ntmps82
    go_wp2
    go_quiet ((go_at_call 130; exact Calls.quiet_of_same (flipW (length_any _ _ _ (by exact HT.out)))))
    go_wp2
    go_ret
    exact ⟨ret_bool (by simp [dOk, h]), by exact ((Below.refl _ _).alloc (Nat.le_refl _) _).trans (below_drewN (Below.refl _ _) _)⟩
  · have hd : decide (1 ≤ d) = false := by simpa using h
    go_enter Tryz.func82, Tryz.ntmps82
    go_wp2
    go_quiet ((go_at_call 130; exact Calls.quiet_of_same (flipW (length_any _ _ _ (by exact HT.out)))))
    go_wp2
    go_ret
    exact ⟨ret_bool (by simp [dOk] <;> omega), by exact ((Below.refl _ _).alloc (Nat.le_refl _) _).trans (below_drewN (Below.refl _ _) _)⟩

set_option maxHeartbeats 2000000 in
theorem date_any (n : Int) (w : World) : Calls Tryz.prog 39 #[.int .i64 n] w fun r w' => r = .returned (.tuple #[.agg #[.int .i64 (gYo n), .int .i64 (gMo n), .int .i64 (gDo n)], .int .i64 (gE n)]) ∧ Below w.heap.size w w' := by
  by_cases h : nOk n = true
  · have hn : -1099511627776 ≤ n ∧ n ≤ 1099511627776 := by simpa [nOk] using h
    obtain ⟨n1, n2⟩ := hn
    have T := Lib.hid (g_yes h)
    go_enter Tryz.func39, Tryz.ntmps39
    go_wp2_with (first | (go_at_call 75; refine (in_any _ _).mono ?_; rintro e w' ⟨rfl, rfl⟩))
    refine (floor_any _ _ (by omega) (by omega) (by omega) (by omega) _).mono ?_
    rintro e w' ⟨rfl, rfl⟩
    rw [show (n + 678881) / 146097 = eraOf n from rfl]
    generalize he : eraOf n = er
    have e1 : -7600000 ≤ er := by unfold eraOf at he; omega
    have e2 : er ≤ 7600000 := by unfold eraOf at he; omega
    have e3 : 0 ≤ n + 678881 - er * 146097 := by unfold eraOf at he; omega
    have e4 : n + 678881 - er * 146097 < 146097 := by unfold eraOf at he; omega
    have HE := Lib.hid he
    clear he
    go_wp2
    all_goals
      go_returns
      obtain ⟨t1, t2, t3, t4⟩ := T.out
      have hE := HE.out
      rename_i hw
      have g0 := of_bd (n := n)
      have g1 : n + 678881 - er * 146097 = ofEra n := by unfold eraOf at hE; unfold ofEra; omega
      rw [g1] at hw ⊢
      generalize hf : ofEra n = f at g0 hw ⊢
      have g2 := yr_bd g0.1 g0.2
      have g3 := dy_bd g0.1 g0.2
      have g4 := mo_bd g3.1 g3.2
      rw [show (f - f / 1460 + f / 36524 - f / 146096) / 365 = yrOf f from rfl] at hw ⊢
      generalize hy : yrOf f = yr at g2 g3 g4 hw ⊢
      rw [show f - (365 * yr + yr / 4 - yr / 100) = dyOf f by unfold dyOf; rw [hy]] at hw ⊢
      generalize hd : dyOf f = dy at g3 g4 hw ⊢
      have k0 : (5 * dy + 2).tdiv 153 = moOf dy := by rw [tdiv_pos (by omega)]; rfl
      rw [k0] at hw ⊢
      generalize hm : moOf dy = mo at g4 hw ⊢
      have k1 : wrap64 (mo + 3) = mo + 3 := by unfold wrap64; omega
      have k2 : wrap64 (wrap64 (mo + 3) - 12) = mo - 9 := by unfold wrap64; omega
      have k3 : wrap64 (wrap64 (153 * mo) + 2) = 153 * mo + 2 := by unfold wrap64; omega
      have k4 : wrap64 ((153 * mo + 2).tdiv 5) = (153 * mo + 2) / 5 := by rw [tdiv_pos (by omega)]; unfold wrap64; omega
      have k5 : wrap64 (wrap64 (dy - (153 * mo + 2) / 5) + 1) = dy - (153 * mo + 2) / 5 + 1 := by unfold wrap64; omega
      rw [k1] at hw
      rw [t1, t2, t3, t4, k3, k4, k5]
      refine ⟨ret_date ?_ ?_ ?_ rfl, by go_grown⟩
      · simp only [gY, hf, hy, hd, hm, hE]; first | rw [if_pos (by omega)] | (rw [if_neg (by omega)]; omega)
      · simp only [gM, hf, hy, hd, hm, hE]; first | (rw [if_pos (by omega)]; exact k2) | (rw [if_neg (by omega)]; exact k1)
      · simp only [gD, hf, hy, hd, hm, hE]
  · have T := Lib.hid (g_no (by simpa using h))
    go_enter Tryz.func39, Tryz.ntmps39
    go_wp2_with (first | (go_at_call 75; refine (in_any _ _).mono ?_; rintro e w' ⟨rfl, rfl⟩))
    go_returns
    obtain ⟨t1, t2, t3, t4⟩ := T.out
    exact ⟨ret_date (by rw [t1]) (by rw [t2]) (by rw [t3]) (by rw [t4]), by go_grown⟩

theorem ret_ii {a b a' b' : Int} (h1 : a = a') (h2 : b = b') : Ending.returned (.tuple #[.int .i64 a, .int .i64 b]) = .returned (.tuple #[.int .i64 a', .int .i64 b']) := by rw [h1, h2]

set_option maxHeartbeats 2000000 in
theorem day_any (y m d : Int) (w : World) (hT : TabLen w) : Calls Tryz.prog 84 #[.agg #[.int .i64 y, .int .i64 m, .int .i64 d]] w fun r w' => r = .returned (.tuple #[.int .i64 (dN y m d), .int .i64 (dE y m d)]) ∧ Below w.heap.size w w' := by
  have HT := Lib.hid (below_tab hT ((Below.refl _ _).alloc (Nat.le_refl _) (.cells #[.int .i64 y, .int .i64 m, .int .i64 d] 29)))
  clear hT
  by_cases h : dOk y m d = true
  · obtain ⟨m1, m2, d1, d2⟩ := dOk_bd h
    by_cases hf : far y = true
    · have T := Lib.hid (d_far (d := d) (m := m) h (Or.inl hf))
      have hf' : y < -4000000000 ∨ 4000000000 < y := by simpa [far] using hf
      rcases hf' with hf' | hf'
      all_goals
        go_enter Tryz.func84, Tryz.ntmps84
        go_wp2_with fail
        refine (valid_date _ _ _ _ HT.out).mono ?_
        rintro e w1 ⟨rfl, hb1⟩
        obtain ⟨hc, hfz⟩ := bcell hb1
        go_wp2
        go_ret2
        obtain ⟨t1, t2⟩ := T.out
        exact ⟨ret_ii (by rw [t1]) (by rw [t2]), below_box hb1⟩
    · have hf' : -4000000000 ≤ y ∧ y ≤ 4000000000 := by simp [far] at hf; omega
      obtain ⟨f1, f2⟩ := hf'
      have hT2 : (nOk (dayOf y m d) = true ∧ Hid (dN y m d = dayOf y m d ∧ dE y m d = 0)) ∨ (nOk (dayOf y m d) = false ∧ Hid (dN y m d = 0 ∧ dE y m d = 2)) := by
        by_cases hn : nOk (dayOf y m d) = true
        · exact Or.inl ⟨hn, Lib.hid (d_yes h (by simpa using hf) hn)⟩
        · exact Or.inr ⟨by simpa using hn, Lib.hid (d_far h (Or.inr (by simpa using hn)))⟩
      rcases hT2 with ⟨hn, T⟩ | ⟨hn, T⟩
      all_goals
        clear hf
        by_cases hm : m < 3
        all_goals
          go_enter Tryz.func84, Tryz.ntmps84
          go_wp2_with fail
          refine (valid_date _ _ _ _ HT.out).mono ?_
          rintro e w1 ⟨rfl, hb1⟩
          obtain ⟨hc, hfz⟩ := bcell hb1
          go_wp2
          go_quiet (fail)
          go_wp2_with fail
          refine (floor_any _ _ (by omega) (by omega) (by omega) (by omega) _).mono ?_
          rintro e w' ⟨rfl, rfl⟩
          go_wp2_with fail
          refine (in_any _ _).mono ?_
          first | rw [day_lo hm] | rw [day_hi (by omega)]
          rintro e w' ⟨rfl, rfl⟩
          go_wp2
          go_ret2
          obtain ⟨t1, t2⟩ := T.out
          exact ⟨ret_ii (by rw [t1]) (by rw [t2]), below_drewN (below_box hb1) _⟩
  · have T := Lib.hid (d_no (by simpa using h))
    go_enter Tryz.func84, Tryz.ntmps84
    go_wp2_with fail
    refine (valid_date _ _ _ _ HT.out).mono ?_
    rintro e w1 ⟨rfl, hb1⟩
    obtain ⟨hc, hfz⟩ := bcell hb1
    go_wp2
    go_ret2
    obtain ⟨t1, t2⟩ := T.out
    exact ⟨ret_ii (by rw [t1]) (by rw [t2]), below_box hb1⟩
end Go.Proofs.YtapbfkofoamaaaaGreatDoor
