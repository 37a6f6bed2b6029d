/- Plain: the day with which a year begins, and how a date is found by years and months. No program is named here. -/
import Derived.Test.YtapbfkofoamaaaaGreatDoorIsoQ
namespace Go.Proofs.YtapbfkofoamaaaaGreatDoor
set_option linter.unusedVariables false
set_option linter.unusedSimpArgs false

def firstY (y : Int) : Int := 365 * y + (y + 3) / 4 - (y + 99) / 100 + (y + 399) / 400 - 678941
def moreY (y : Int) : Int := if leap y = true then 1 else 0
def cumL : List Int := [0, 31, 59, 90, 120, 151, 181, 212, 243, 273, 304, 334, 365]
def cumM (y m : Int) : Int := cumL.getD (m - 1).toNat 0 + (if 2 < m then moreY y else 0)
theorem more_bd (y : Int) : 0 ≤ moreY y ∧ moreY y ≤ 1 := by unfold moreY; split <;> omega
theorem leap_iff {y : Int} : leap y = true ↔ (y % 4 = 0 ∧ (y % 100 ≠ 0 ∨ y % 400 = 0)) := by simp [leap]
theorem first_step (y : Int) : firstY (y + 1) = firstY y + 365 + moreY y := by
  have e4 : (y + 1 + 3) / 4 - (y + 3) / 4 = if y % 4 = 0 then 1 else 0 := by split <;> omega
  have e100 : (y + 1 + 99) / 100 - (y + 99) / 100 = if y % 100 = 0 then 1 else 0 := by split <;> omega
  have e400 : (y + 1 + 399) / 400 - (y + 399) / 400 = if y % 400 = 0 then 1 else 0 := by split <;> omega
  have em : moreY y = (if y % 4 = 0 then 1 else 0) - (if y % 100 = 0 then 1 else 0) + (if y % 400 = 0 then 1 else 0) := by
    unfold moreY
    by_cases h : leap y = true
    · obtain ⟨h1, h2⟩ := leap_iff.1 h
      rw [if_pos h, if_pos h1]
      rcases h2 with h2 | h2
      · rw [if_neg h2, if_neg (by omega)]; rfl
      · rw [if_pos (show y % 100 = 0 by omega), if_pos h2]; rfl
    · rw [if_neg h]
      have h' : ¬ (y % 4 = 0 ∧ (y % 100 ≠ 0 ∨ y % 400 = 0)) := fun k => h (leap_iff.2 k)
      by_cases h1 : y % 4 = 0
      · have : y % 100 = 0 ∧ y % 400 ≠ 0 := by omega
        rw [if_pos h1, if_pos this.1, if_neg this.2]; rfl
      · rw [if_neg h1, if_neg (by omega), if_neg (by omega)]; rfl
  unfold firstY
  omega
theorem twelve {m : Int} (h1 : 1 ≤ m) (h2 : m ≤ 12) : m = 1 ∨ m = 2 ∨ m = 3 ∨ m = 4 ∨ m = 5 ∨ m = 6 ∨ m = 7 ∨ m = 8 ∨ m = 9 ∨ m = 10 ∨ m = 11 ∨ m = 12 := by omega
theorem cum_step {y m : Int} (h1 : 1 ≤ m) (h2 : m ≤ 12) : cumM y (m + 1) = cumM y m + mlen y m := by
  rw [mlen_table h1 h2]
  rcases twelve h1 h2 with rfl | rfl | rfl | rfl | rfl | rfl | rfl | rfl | rfl | rfl | rfl | rfl
  case inr.inl => unfold cumM moreY; by_cases h : leap y = true <;> simp [cumL, h]
  all_goals simp [cumM, cumL]; try omega
theorem cum_one (y : Int) : cumM y 1 = 0 := by simp [cumM, cumL]
theorem cum_end (y : Int) : cumM y 13 = 365 + moreY y := by simp [cumM, cumL]
theorem day_first {y m d : Int} (h1 : 1 ≤ m) (h2 : m ≤ 12) : dayOf y m d = firstY y + cumM y m + d - 1 := by
  have hs := first_step y
  have hm := more_bd y
  have hn : 2 < m → mY y m = y := fun h => by unfold mY; rw [if_neg (by omega)]
  have hp : m ≤ 2 → mY y m = y - 1 := fun h => by unfold mY; rw [if_pos (by omega)]
  have key : ∀ Y : Int, Y / 400 * 146097 + Y % 400 * 365 + Y % 400 / 4 - Y % 400 / 100 = 365 * Y + Y / 4 - Y / 100 + Y / 400 := by intro Y; omega
  unfold dayOf
  rw [key]
  by_cases h : m ≤ 2
  · rw [hp h]
    unfold firstY
    have : m = 1 ∨ m = 2 := by omega
    rcases this with rfl | rfl <;> simp [mM, cumM, cumL] <;> omega
  · rw [hn (by omega)]
    have e : 365 * y + y / 4 - y / 100 + y / 400 = firstY (y + 1) - 366 + 678941 := by unfold firstY; omega
    rw [e, hs]
    have : m = 3 ∨ m = 4 ∨ m = 5 ∨ m = 6 ∨ m = 7 ∨ m = 8 ∨ m = 9 ∨ m = 10 ∨ m = 11 ∨ m = 12 := by omega
    unfold cumM mM
    rcases this with rfl | rfl | rfl | rfl | rfl | rfl | rfl | rfl | rfl | rfl <;> simp [cumL] <;> omega
/-- Where the search for a year begins. -/
def yGuess (n : Int) : Int := (n + 678941) * 400 / 146097 - 1
theorem guess_first (n : Int) : firstY (yGuess n) ≤ n := by unfold firstY yGuess; omega
/-- A date that the search finds is the day's. -/
theorem found {n y m k : Int} (h1 : 1 ≤ m) (h2 : m ≤ 12) (h3 : 0 ≤ k) (h4 : k < mlen y m) (h5 : n = firstY y + cumM y m + k) : gY n = y ∧ gM n = m ∧ gD n = k + 1 := by
  have hd : dOk y m (k + 1) = true := by simp [dOk]; omega
  have e : dayOf y m (k + 1) = n := by rw [day_first h1 h2]; omega
  rw [← e]
  exact date_inv hd
theorem month_left {n y m k : Int} (h1 : 1 ≤ m) (h2 : m ≤ 12) (h0 : n < firstY (y + 1)) (h5 : n = firstY y + cumM y m + k) (h4 : mlen y m ≤ k) : m + 1 ≤ 12 := by
  rw [first_step] at h0
  have := cum_step (y := y) h1 h2
  have e := cum_end y
  rcases Int.lt_or_eq_of_le h2 with h | h
  · omega
  · subst h; simp at this; omega
end Go.Proofs.YtapbfkofoamaaaaGreatDoor
