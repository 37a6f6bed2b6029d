/- Plain: of labels of one year the later one has the later text. No program is named here. -/
import Derived.Test.YtapbfkofoamaaaaGreatDoorRefP
namespace Go.Proofs.YtapbfkofoamaaaaGreatDoor
set_option linter.unusedVariables false
set_option linter.unusedSimpArgs false

/-- Bytes in their order. -/
def ltB : List UInt8 → List UInt8 → Bool
  | [], [] => false
  | [], _ :: _ => true
  | _ :: _, [] => false
  | a :: x, b :: y => decide (a < b) || (a == b && ltB x y)
theorem ltB_same (p x y : List UInt8) : ltB (p ++ x) (p ++ y) = ltB x y := by
  induction p with
  | nil => rfl
  | cons a p ih => simp [ltB, ih]
theorem ltB_self (x : List UInt8) : ltB x x = false := by
  induction x with
  | nil => rfl
  | cons a p ih => simp [ltB, ih]
theorem pad_bytes {a : Int} (h1 : 0 ≤ a) (h2 : a < 100) : ∃ i j : Nat, i < 10 ∧ j < 10 ∧ a = i * 10 + j ∧ padL a 2 = [UInt8.ofNat (48 + i), UInt8.ofNat (48 + j)] := by
  refine ⟨(a / 10).toNat, (a % 10).toNat, by omega, by omega, by omega, ?_⟩
  rw [← pad_small _ (by omega) _ (by omega)]
  congr 1
  omega
theorem byte_lt {i j : Nat} (hi : i < 10) (hj : j < 10) : (UInt8.ofNat (48 + i) < UInt8.ofNat (48 + j)) ↔ i < j := by
  rw [UInt8.lt_iff_toNat_lt]
  simp
  omega
theorem byte_eq {i j : Nat} (hi : i < 10) (hj : j < 10) : (UInt8.ofNat (48 + i) = UInt8.ofNat (48 + j)) ↔ i = j := by
  constructor
  · intro h
    have := congrArg UInt8.toNat h
    simp at this
    omega
  · rintro rfl; rfl
theorem ltB_pad {a b : Int} (a1 : 0 ≤ a) (a2 : a < 100) (b1 : 0 ≤ b) (b2 : b < 100) (x y : List UInt8) : ltB (padL a 2 ++ x) (padL b 2 ++ y) = (decide (a < b) || (decide (a = b) && ltB x y)) := by
  obtain ⟨i, j, hi, hj, rfl, e1⟩ := pad_bytes a1 a2
  obtain ⟨k, l, hk, hl, rfl, e2⟩ := pad_bytes b1 b2
  rw [e1, e2, Bool.eq_iff_iff]
  simp only [List.cons_append, List.nil_append, ltB, Bool.or_eq_true, Bool.and_eq_true, decide_eq_true_eq, beq_iff_eq, byte_lt hi hk, byte_lt hj hl, byte_eq hi hk, byte_eq hj hl]
  constructor
  · rintro (h | ⟨h, h2 | ⟨h3, h4⟩⟩)
    · left; omega
    · left; omega
    · right; exact ⟨by omega, h4⟩
  · rintro (h | ⟨h, h4⟩)
    · by_cases e : i < k
      · left; exact e
      · right; exact ⟨by omega, Or.inl (by omega)⟩
    · right; exact ⟨by omega, Or.inr ⟨by omega, h4⟩⟩
/-- The order of dates, and that of times of day. -/
theorem date_order {y m d m' d' : Int} (h : dOk y m d = true) (h' : dOk y m' d' = true) : (dayOf y m d < dayOf y m' d') ↔ (m < m' ∨ (m = m' ∧ d < d')) := by
  obtain ⟨m1, m2, d1, d2⟩ := dOk_bd h
  obtain ⟨m1', m2', d1', d2'⟩ := dOk_bd h'
  have k : 1 ≤ d ∧ d ≤ mlen y m := by simpa [dOk] using h
  have k' : 1 ≤ d' ∧ d' ≤ mlen y m' := by simpa [dOk] using h'
  rw [day_first m1 m2, day_first m1' m2']
  have mono : ∀ t : Nat, ∀ a : Int, 1 ≤ a → a + 1 + t ≤ 13 → cumM y a + mlen y a ≤ cumM y (a + 1 + t) := by
    intro t
    induction t with
    | zero => intro a h1 h2; have := cum_step (y := y) h1 (by omega); simp; omega
    | succ t ih =>
      intro a h1 h2
      have h3 := ih a h1 (by omega)
      have h4 := cum_step (y := y) (m := a + 1 + t) (by omega) (by omega)
      have h5 := (mlen_le y (a + 1 + t)).1
      rw [show a + 1 + ((t + 1 : Nat) : Int) = a + 1 + t + 1 by omega]
      omega
  rcases Int.lt_trichotomy m m' with q | q | q
  · have := mono (m' - m - 1).toNat m m1 (by omega)
    rw [show m + 1 + (((m' - m - 1).toNat : Nat) : Int) = m' by omega] at this
    omega
  · subst q; omega
  · have := mono (m - m' - 1).toNat m' m1' (by omega)
    rw [show m' + 1 + (((m - m' - 1).toNat : Nat) : Int) = m by omega] at this
    omega
theorem sec_order {s t : Int} (hs : tOk s 0 = true) (ht : tOk t 0 = true) : (s < t) ↔ (tH s 0 < tH t 0 ∨ (tH s 0 = tH t 0 ∧ (tM s 0 < tM t 0 ∨ (tM s 0 = tM t 0 ∧ tS s 0 < tS t 0)))) := by
  have h1 : 0 ≤ s ∧ s ≤ 86400 := by simp [tOk] at hs; exact hs
  have h2 : 0 ≤ t ∧ t ≤ 86400 := by simp [tOk] at ht; exact ht
  by_cases k1 : s ≤ 86399
  · obtain ⟨e1, e2, e3, _, _⟩ := t_lo h1.1 k1 (show (0 : Int) ≤ 0 by omega) (by omega)
    rw [e1, e2, e3]
    by_cases k2 : t ≤ 86399
    · obtain ⟨f1, f2, f3, _, _⟩ := t_lo h2.1 k2 (show (0 : Int) ≤ 0 by omega) (by omega)
      rw [f1, f2, f3]
      omega
    · obtain rfl : t = 86400 := by omega
      obtain ⟨f1, f2, f3, _, _⟩ := t_hi (show (0 : Int) ≤ 0 by omega) (by omega)
      rw [f1, f2, f3]
      omega
  · obtain rfl : s = 86400 := by omega
    obtain ⟨e1, e2, e3, _, _⟩ := t_hi (show (0 : Int) ≤ 0 by omega) (by omega)
    rw [e1, e2, e3]
    by_cases k2 : t ≤ 86399
    · obtain ⟨f1, f2, f3, _, _⟩ := t_lo h2.1 k2 (show (0 : Int) ≤ 0 by omega) (by omega)
      rw [f1, f2, f3]
      omega
    · obtain rfl : t = 86400 := by omega
      obtain ⟨f1, f2, f3, _, _⟩ := t_hi (show (0 : Int) ≤ 0 by omega) (by omega)
      rw [f1, f2, f3]
      omega
/-- Each day has a date. -/
theorem date_of (n : Int) : ∃ y m d, dOk y m d = true ∧ dayOf y m d = n := by
  have hy : ∃ y, firstY y ≤ n ∧ n < firstY (y + 1) := by
    have h0 := guess_first n
    have h1 : n < firstY (yGuess n + 10) := by unfold firstY yGuess; omega
    generalize yGuess n = g at *
    have st : ∀ t : Nat, n < firstY (g + t) → ∃ y, firstY y ≤ n ∧ n < firstY (y + 1) := by
      intro t
      induction t with
      | zero => intro h; simp at h; omega
      | succ t ih =>
        intro h
        by_cases k : n < firstY (g + t)
        · exact ih k
        · exact ⟨g + t, by omega, by rw [show g + (t : Int) + 1 = g + ((t + 1 : Nat) : Int) by omega]; exact h⟩
    exact st 10 h1
  obtain ⟨y, y1, y2⟩ := hy
  have st : ∀ t : Nat, ∀ m : Int, 1 ≤ m → m + t = 13 → firstY y + cumM y m ≤ n → ∃ m d, dOk y m d = true ∧ dayOf y m d = n := by
    intro t
    induction t with
    | zero =>
      intro m h1 h2 h3
      obtain rfl : m = 13 := by omega
      rw [cum_end] at h3
      rw [first_step] at y2
      omega
    | succ t ih =>
      intro m h1 h2 h3
      by_cases k : n - (firstY y + cumM y m) < mlen y m
      · exact ⟨m, n - (firstY y + cumM y m) + 1, by simp [dOk]; omega, by rw [day_first h1 (by omega)]; omega⟩
      · refine ih (m + 1) (by omega) (by omega) ?_
        rw [cum_step h1 (by omega)]
        omega
  obtain ⟨m, d, h⟩ := st 12 1 (by omega) (by omega) (by rw [cum_one]; omega)
  exact ⟨y, m, d, h⟩
theorem date_back (n : Int) : dOk (gY n) (gM n) (gD n) = true ∧ dayOf (gY n) (gM n) (gD n) = n := by
  obtain ⟨y, m, d, h, rfl⟩ := date_of n
  obtain ⟨e1, e2, e3⟩ := date_inv h
  rw [e1, e2, e3]
  exact ⟨h, rfl⟩

/-- The law. -/
theorem text_order {d s d' s' : Int} (h1 : tOk s 0 = true) (h2 : nOk d = true) (h3 : tOk s' 0 = true) (h4 : nOk d' = true) (hy : gY d = gY d') :
    ltB (labelL d s 0) (labelL d' s' 0) = (decide (d < d') || (decide (d = d') && decide (s < s'))) := by
  obtain ⟨e1, e2, e3, _⟩ := g_yes h2
  obtain ⟨f1, f2, f3, _⟩ := g_yes h4
  obtain ⟨b1, b2⟩ := date_back d
  obtain ⟨c1, c2⟩ := date_back d'
  obtain ⟨p1, p2, p3, p4, p5, p6, p7, p8, p9⟩ := t_bd h1
  obtain ⟨q1, q2, q3, q4, q5, q6, q7, q8, q9⟩ := t_bd h3
  obtain ⟨m1, m2, g1, g2⟩ := dOk_bd b1
  obtain ⟨m1', m2', g1', g2'⟩ := dOk_bd c1
  have so := sec_order h1 h3
  have se : s = s' ↔ (tH s 0 = tH s' 0 ∧ tM s 0 = tM s' 0 ∧ tS s 0 = tS s' 0) := by
    constructor
    · rintro rfl; exact ⟨rfl, rfl, rfl⟩
    · rintro ⟨r1, r2, r3⟩
      have a1 := so
      have a2 := sec_order h3 h1
      omega
  have dor := date_order (y := gY d) b1 (by rw [hy]; exact c1)
  have der : d = d' ↔ (gM d = gM d' ∧ gD d = gD d') := by
    constructor
    · rintro rfl; exact ⟨rfl, rfl⟩
    · rintro ⟨r1, r2⟩
      rw [← b2, ← c2, hy, r1, r2]
  rw [b2] at dor
  rw [show dayOf (gY d) (gM d') (gD d') = d' by rw [hy]; exact c2] at dor
  have ta : tA s 0 = 0 := by unfold tA; split <;> rfl
  have ta' : tA s' 0 = 0 := by unfold tA; split <;> rfl
  unfold labelL
  rw [e1, e2, e3, f1, f2, f3, hy, ta, ta']
  simp only [List.append_assoc]
  rw [ltB_same, ltB_same, ltB_pad (by omega) (by omega) (by omega) (by omega), ltB_same, ltB_pad (by omega) (by omega) (by omega) (by omega), ltB_same, ltB_pad (by omega) (by omega) (by omega) (by omega), ltB_same, ltB_pad (by omega) (by omega) (by omega) (by omega), ltB_same, ltB_pad (by omega) (by omega) (by omega) (by omega), ltB_self]
  rw [Bool.eq_iff_iff]
  simp only [Bool.or_eq_true, Bool.and_eq_true, decide_eq_true_eq, Bool.false_eq_true, and_false, or_false]
  rw [dor, der, so]
  generalize gM d = M at *
  generalize gM d' = M' at *
  omega
end Go.Proofs.YtapbfkofoamaaaaGreatDoor
