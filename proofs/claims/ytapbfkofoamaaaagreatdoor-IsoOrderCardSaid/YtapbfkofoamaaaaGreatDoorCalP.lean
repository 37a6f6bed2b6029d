/- Plain words for dates and times of day: what face and greg compute. No program is named here. -/
namespace Go.Proofs.YtapbfkofoamaaaaGreatDoor

def win (n e : Int) : Bool := decide (0 ≤ n ∧ n < e)
/-- Second and attosecond of a day in range? -/
def tOk (s a : Int) : Bool := decide (0 ≤ s ∧ s ≤ 86400 ∧ 0 ≤ a ∧ a < 1000000000000000000)
def tH (s a : Int) : Int := if tOk s a then (if s ≤ 86399 then s / 3600 else 23) else 0
def tM (s a : Int) : Int := if tOk s a then (if s ≤ 86399 then s % 3600 / 60 else 59) else 0
def tS (s a : Int) : Int := if tOk s a then (if s ≤ 86399 then s % 60 else 60) else 0
def tA (s a : Int) : Int := if tOk s a then a else 0
def tE (s a : Int) : Int := if tOk s a then 0 else 1

def leap (y : Int) : Bool := y % 4 == 0 && (y % 100 != 0 || y % 400 == 0)
def monthLens : List Int := [31, 28, 31, 30, 31, 30, 31, 31, 30, 31, 30, 31]
def mlen (y m : Int) : Int := if m < 1 ∨ 12 < m then 0 else if m = 2 ∧ leap y = true then 29 else monthLens.getD (m - 1).toNat 0
def dOk (y m d : Int) : Bool := decide (1 ≤ d ∧ d ≤ mlen y m)
/-- A time of day there is. -/
def hOk (h m s a : Int) : Bool := decide (0 ≤ h ∧ h < 24 ∧ 0 ≤ m ∧ m < 60 ∧ 0 ≤ a ∧ a < 1000000000000000000 ∧ ((0 ≤ s ∧ s < 60) ∨ (s = 60 ∧ h = 23 ∧ m = 59)))

theorem t_lo {s a : Int} (h1 : 0 ≤ s) (h2 : s ≤ 86399) (h3 : 0 ≤ a) (h4 : a < 1000000000000000000) : tH s a = s / 3600 ∧ tM s a = s % 3600 / 60 ∧ tS s a = s % 60 ∧ tA s a = a ∧ tE s a = 0 := by
  have q : tOk s a = true := by unfold tOk; simp; omega
  simp [tH, tM, tS, tA, tE, q, h2]
theorem t_hi {a : Int} (h3 : 0 ≤ a) (h4 : a < 1000000000000000000) : tH 86400 a = 23 ∧ tM 86400 a = 59 ∧ tS 86400 a = 60 ∧ tA 86400 a = a ∧ tE 86400 a = 0 := by
  have q : tOk 86400 a = true := by unfold tOk; simp; omega
  simp [tH, tM, tS, tA, tE, q]
theorem t_no {s a : Int} (h : win s 86401 = false ∨ win a 1000000000000000000 = false) : tH s a = 0 ∧ tM s a = 0 ∧ tS s a = 0 ∧ tA s a = 0 ∧ tE s a = 1 := by
  have q : tOk s a = false := by simp [win] at h; unfold tOk; simp; omega
  simp [tH, tM, tS, tA, tE, q]
def hSec (h m s a : Int) : Int := if hOk h m s a then h * 3600 + m * 60 + s else 0
def hAtto (h m s a : Int) : Int := if hOk h m s a then a else 0
def hE (h m s a : Int) : Int := if hOk h m s a then 0 else 5

/-- The date of a day, by eras of 146097 days that begin in March. -/
def eraOf (n : Int) : Int := (n + 678881) / 146097
def ofEra (n : Int) : Int := (n + 678881) % 146097
def yrOf (f : Int) : Int := (f - f / 1460 + f / 36524 - f / 146096) / 365
def dyOf (f : Int) : Int := f - (365 * yrOf f + yrOf f / 4 - yrOf f / 100)
def moOf (g : Int) : Int := (5 * g + 2) / 153
def gY (n : Int) : Int := yrOf (ofEra n) + eraOf n * 400 + (if 9 < moOf (dyOf (ofEra n)) then 1 else 0)
def gM (n : Int) : Int := if 9 < moOf (dyOf (ofEra n)) then moOf (dyOf (ofEra n)) - 9 else moOf (dyOf (ofEra n)) + 3
def gD (n : Int) : Int := dyOf (ofEra n) - (153 * moOf (dyOf (ofEra n)) + 2) / 5 + 1
def nOk (n : Int) : Bool := decide (-1099511627776 ≤ n ∧ n ≤ 1099511627776)
def gYo (n : Int) : Int := if nOk n then gY n else 0
def gMo (n : Int) : Int := if nOk n then gM n else 0
def gDo (n : Int) : Int := if nOk n then gD n else 0
def gE (n : Int) : Int := if nOk n then 0 else 2

/-- The day of a date. -/
def mY (y m : Int) : Int := if m < 3 then y - 1 else y
def mM (m : Int) : Int := if m < 3 then m + 9 else m - 3
def dayOf (y m d : Int) : Int := mY y m / 400 * 146097 + mY y m % 400 * 365 + mY y m % 400 / 4 - mY y m % 400 / 100 + (153 * mM m + 2) / 5 + d - 1 - 678881
def far (y : Int) : Bool := decide (y < -4000000000 ∨ 4000000000 < y)

theorem floor_lo {a b : Int} (hb : 0 < b) (h : a.tmod b < 0) : a.tdiv b - 1 = a / b := by
  rw [Int.tdiv_eq_ediv]
  rw [Int.tmod_eq_emod] at h
  have := Int.emod_nonneg a (show b ≠ 0 by omega)
  split at h
  · omega
  · rename_i q
    rw [if_neg q, Int.sign_eq_one_of_pos hb]; omega
theorem floor_hi {a b : Int} (hb : 0 < b) (h : 0 ≤ a.tmod b) : a.tdiv b = a / b := by
  rw [Int.tdiv_eq_ediv]
  rw [Int.tmod_eq_emod] at h
  have := Int.emod_lt_of_pos a hb
  split at h
  · rename_i q
    rw [if_pos q]; omega
  · omega
theorem tmod_zero {a b : Int} : a.tmod b = 0 ↔ a % b = 0 := by
  rw [← Int.dvd_iff_tmod_eq_zero, Int.dvd_iff_emod_eq_zero]
theorem ediv_big {a b : Int} (hb : 0 < b) (h1 : -1000000000000000 ≤ a) (h2 : a ≤ 1000000000000000) : -1000000000000000 ≤ a / b ∧ a / b ≤ 1000000000000000 := by
  have e1 : (-1000000000000000 : Int) * b ≤ -1000000000000000 * 1 := by omega
  have e2 : (1000000000000000 : Int) * 1 ≤ 1000000000000000 * b := by omega
  exact ⟨Int.le_ediv_of_mul_le hb (by omega), Int.ediv_le_of_le_mul hb (by omega)⟩

theorem mlen_le (y m : Int) : 0 ≤ mlen y m ∧ mlen y m ≤ 31 := by
  unfold mlen
  split
  · omega
  · split
    · omega
    · rename_i h1 h2
      obtain ⟨j, hj, hj2⟩ : ∃ j : Nat, (m - 1).toNat = j ∧ j < 12 := ⟨_, rfl, by omega⟩
      rw [hj]
      have : ∀ k, k < 12 → 0 ≤ monthLens.getD k 0 ∧ monthLens.getD k 0 ≤ 31 := by decide
      exact this j hj2
theorem g_yes {n : Int} (h : nOk n = true) : gYo n = gY n ∧ gMo n = gM n ∧ gDo n = gD n ∧ gE n = 0 := by simp [gYo, gMo, gDo, gE, h]
theorem g_no {n : Int} (h : nOk n = false) : gYo n = 0 ∧ gMo n = 0 ∧ gDo n = 0 ∧ gE n = 2 := by simp [gYo, gMo, gDo, gE, h]
theorem of_bd {n : Int} : 0 ≤ ofEra n ∧ ofEra n < 146097 := by unfold ofEra; omega
theorem yr_bd {f : Int} (h1 : 0 ≤ f) (h2 : f < 146097) : 0 ≤ yrOf f ∧ yrOf f < 400 := by unfold yrOf; omega
theorem year_parts {f : Int} (h1 : 0 ≤ f) (h2 : f < 146097) : ∃ y4 r4 c q k d : Int, f = 1460 * y4 + r4 ∧ 0 ≤ r4 ∧ r4 < 1460 ∧ yrOf f = 4 * y4 + k ∧ (0 ≤ r4 - y4 + c - q - 365 * k ∧ r4 - y4 + c - q - 365 * k < 365) ∧ (k = -1 ∨ k = 0 ∨ k = 1 ∨ k = 2 ∨ k = 3) ∧
   (c = 0 ∨ c = 1 ∨ c = 2 ∨ c = 3 ∨ c = 4) ∧ (0 ≤ f - 36524 * c ∧ f - 36524 * c < 36524) ∧ (q = 0 ∨ q = 1) ∧ (0 ≤ f - 146096 * q ∧ f - 146096 * q < 146096) ∧ yrOf f / 100 = d ∧ (d = 0 ∨ d = 1 ∨ d = 2 ∨ d = 3) ∧ 0 ≤ 4 * y4 + k - 100 * d ∧ 4 * y4 + k - 100 * d < 100 := by
  refine ⟨f / 1460, f % 1460, f / 36524, f / 146096, yrOf f - 4 * (f / 1460), yrOf f / 100, by omega, by omega, by omega, by omega, ?_, ?_, by omega, by omega, by omega, by omega, rfl, ?_, by omega, by omega⟩
  all_goals unfold yrOf; omega
theorem dy_bd {f : Int} (h1 : 0 ≤ f) (h2 : f < 146097) : 0 ≤ dyOf f ∧ dyOf f ≤ 365 := by
  obtain ⟨y4, r4, c, q, k, d, hf, a1, a2, hy, a3, hk, hc, a4, hq, a5, hd, hd4, a6, a7⟩ := year_parts h1 h2
  unfold dyOf
  rw [hd, hy]
  rcases hc with rfl | rfl | rfl | rfl | rfl <;> rcases hk with rfl | rfl | rfl | rfl | rfl <;> rcases hd4 with rfl | rfl | rfl | rfl <;> omega
theorem mo_bd {g : Int} (h1 : 0 ≤ g) (h2 : g ≤ 365) : 0 ≤ moOf g ∧ moOf g ≤ 11 := by unfold moOf; omega

def dN (y m d : Int) : Int := if dOk y m d && !far y && nOk (dayOf y m d) then dayOf y m d else 0
def dE (y m d : Int) : Int := if !dOk y m d then 5 else if far y || !nOk (dayOf y m d) then 2 else 0
theorem d_no {y m d : Int} (h : dOk y m d = false) : dN y m d = 0 ∧ dE y m d = 5 := by simp [dN, dE, h]
theorem d_far {y m d : Int} (h : dOk y m d = true) (h2 : far y = true ∨ nOk (dayOf y m d) = false) : dN y m d = 0 ∧ dE y m d = 2 := by
  rcases h2 with h2 | h2 <;> simp [dN, dE, h, h2]
theorem d_yes {y m d : Int} (h : dOk y m d = true) (h2 : far y = false) (h3 : nOk (dayOf y m d) = true) : dN y m d = dayOf y m d ∧ dE y m d = 0 := by
  simp [dN, dE, h, h2, h3]
theorem dOk_bd {y m d : Int} (h : dOk y m d = true) : 1 ≤ m ∧ m ≤ 12 ∧ 1 ≤ d ∧ d ≤ 31 := by
  have h' : 1 ≤ d ∧ d ≤ mlen y m := by simpa [dOk] using h
  have h2 := mlen_le y m
  have h3 : ¬ (m < 1 ∨ 12 < m) := fun c => by
    have : mlen y m = 0 := by simp [mlen, c]
    omega
  omega
theorem day_lo {y m d : Int} (h : m < 3) : (y - 1) / 400 * 146097 + (y - 1 - (y - 1) / 400 * 400) * 365 + (y - 1 - (y - 1) / 400 * 400) / 4 - (y - 1 - (y - 1) / 400 * 400) / 100 + (153 * (m - 3 + 12) + 2) / 5 + d - 1 - 678881 = dayOf y m d := by
  unfold dayOf mY mM
  rw [if_pos h, if_pos h, show y - 1 - (y - 1) / 400 * 400 = (y - 1) % 400 by omega, show m - 3 + 12 = m + 9 by omega]
theorem day_hi {y m d : Int} (h : ¬ m < 3) : y / 400 * 146097 + (y - y / 400 * 400) * 365 + (y - y / 400 * 400) / 4 - (y - y / 400 * 400) / 100 + (153 * (m - 3) + 2) / 5 + d - 1 - 678881 = dayOf y m d := by
  unfold dayOf mY mM
  rw [if_neg h, if_neg h, show y - y / 400 * 400 = y % 400 by omega]
end Go.Proofs.YtapbfkofoamaaaaGreatDoor
