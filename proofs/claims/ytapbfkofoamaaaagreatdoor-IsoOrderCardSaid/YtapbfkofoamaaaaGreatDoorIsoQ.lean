/- Plain: a label's text is read as it, and a date's day is its day. No program is named here. -/
import Derived.Test.YtapbfkofoamaaaaGreatDoorIsoP
namespace Go.Proofs.YtapbfkofoamaaaaGreatDoor
set_option linter.unusedVariables false
set_option linter.unusedSimpArgs false

theorem mlen_table {y m : Int} (h1 : 1 ≤ m) (h2 : m ≤ 12) : mlen y m = if m = 2 then (if leap y = true then 29 else 28) else if m = 4 ∨ m = 6 ∨ m = 9 ∨ m = 11 then 30 else 31 := by
  have : m = 1 ∨ m = 2 ∨ m = 3 ∨ m = 4 ∨ m = 5 ∨ m = 6 ∨ m = 7 ∨ m = 8 ∨ m = 9 ∨ m = 10 ∨ m = 11 ∨ m = 12 := by omega
  rcases this with rfl | rfl | rfl | rfl | rfl | rfl | rfl | rfl | rfl | rfl | rfl | rfl <;> simp [mlen, monthLens]
def doyOf (m d : Int) : Int := (153 * mM m + 2) / 5 + d - 1
theorem doy_bd {y m d : Int} (h : dOk y m d = true) : 0 ≤ doyOf m d ∧ doyOf m d ≤ 365 ∧ (doyOf m d = 365 → leap (mY y m + 1) = true) ∧ moOf (doyOf m d) = mM m := by
  obtain ⟨m1, m2, d1, d2⟩ := dOk_bd h
  have h' : 1 ≤ d ∧ d ≤ mlen y m := by simpa [dOk] using h
  rw [mlen_table m1 m2] at h'
  have hm : m = 1 ∨ m = 2 ∨ m = 3 ∨ m = 4 ∨ m = 5 ∨ m = 6 ∨ m = 7 ∨ m = 8 ∨ m = 9 ∨ m = 10 ∨ m = 11 ∨ m = 12 := by omega
  unfold doyOf mM mY moOf
  rcases hm with rfl | rfl | rfl | rfl | rfl | rfl | rfl | rfl | rfl | rfl | rfl | rfl
  case inr.inl =>
    by_cases hl : leap y = true
    · simp only [hl, if_true] at h'
      refine ⟨by simp; omega, by simp at h' ⊢; omega, fun _ => by simpa using hl, by simp at h' ⊢; omega⟩
    · simp only [hl] at h'
      refine ⟨by simp; omega, by simp at h' ⊢; omega, fun k => by simp at h' k; omega, by simp at h' ⊢; omega⟩
  all_goals
    simp at h' ⊢
    omega
theorem leap_parts {y : Int} (h : leap y = true) : y % 4 = 0 ∧ (y % 100 ≠ 0 ∨ y % 400 = 0) := by
  simpa [leap] using h
theorem yr_inv {f o g : Int} (h1 : 0 ≤ o) (h2 : o < 400) (h3 : 0 ≤ g) (h4 : g ≤ 365) (h5 : g = 365 → (o + 1) % 4 = 0 ∧ ((o + 1) % 100 ≠ 0 ∨ (o + 1) % 400 = 0)) (hf : f = o * 365 + o / 4 - o / 100 + g) : 0 ≤ f ∧ f < 146097 ∧ yrOf f = o := by
  obtain ⟨c, k, j, ho, hc, hk1, hk2, hj⟩ : ∃ c k j : Int, o = 100 * c + 4 * k + j ∧ (c = 0 ∨ c = 1 ∨ c = 2 ∨ c = 3) ∧ 0 ≤ k ∧ k < 25 ∧ (j = 0 ∨ j = 1 ∨ j = 2 ∨ j = 3) :=
    ⟨o / 100, o % 100 / 4, o % 4, by omega, by omega, by omega, by omega, by omega⟩
  have hf2 : f = 36524 * c + 1461 * k + 365 * j + g := by omega
  have hg : g = 365 → j = 3 ∧ (k < 24 ∨ c = 3) := by omega
  clear hf h5
  have e1 : f / 1460 = 25 * c + k ∨ f / 1460 = 25 * c + k + 1 := by
    rcases hc with rfl | rfl | rfl | rfl <;> rcases hj with rfl | rfl | rfl | rfl <;> omega
  have e2 : (f / 36524 = c ∧ f / 146096 = 0) ∨ f = 146096 := by
    rcases hc with rfl | rfl | rfl | rfl <;> rcases hj with rfl | rfl | rfl | rfl <;> omega
  have e3 : 0 ≤ f ∧ f < 146097 := by
    rcases hc with rfl | rfl | rfl | rfl <;> rcases hj with rfl | rfl | rfl | rfl <;> omega
  refine ⟨e3.1, e3.2, ?_⟩
  unfold yrOf
  rcases e2 with ⟨e2, e4⟩ | rfl
  · rw [e2, e4]
    rcases e1 with e1 | e1 <;> rw [e1] <;> rcases hc with rfl | rfl | rfl | rfl <;> rcases hj with rfl | rfl | rfl | rfl <;> omega
  · rcases hc with rfl | rfl | rfl | rfl <;> rcases hj with rfl | rfl | rfl | rfl <;> omega

/-- The date of a date's day. -/
theorem date_inv {y m d : Int} (h : dOk y m d = true) : gY (dayOf y m d) = y ∧ gM (dayOf y m d) = m ∧ gD (dayOf y m d) = d := by
  obtain ⟨g1, g2, g3, g4⟩ := doy_bd h
  obtain ⟨m1, m2, d1, d2⟩ := dOk_bd h
  have hy := yr_inv (f := mY y m % 400 * 365 + mY y m % 400 / 4 - mY y m % 400 / 100 + doyOf m d) (o := mY y m % 400) (g := doyOf m d) (by omega) (by omega) g1 g2 (fun k => by have := leap_parts (g3 k); omega) rfl
  obtain ⟨f1, f2, f3⟩ := hy
  generalize hf : mY y m % 400 * 365 + mY y m % 400 / 4 - mY y m % 400 / 100 + doyOf m d = f at *
  have hn : dayOf y m d = mY y m / 400 * 146097 + f - 678881 := by unfold dayOf; unfold doyOf at hf; omega
  have he : eraOf (dayOf y m d) = mY y m / 400 := by unfold eraOf; omega
  have ho : ofEra (dayOf y m d) = f := by unfold ofEra; omega
  have hd : dyOf f = doyOf m d := by unfold dyOf; rw [f3]; omega
  have hmm : moOf (doyOf m d) = mM m := g4
  unfold gY gM gD
  rw [he, ho, f3, hd, hmm]
  unfold mM at *
  unfold mY at *
  refine ⟨?_, ?_, ?_⟩
  · split <;> split at * <;> omega
  · split <;> split at * <;> omega
  · unfold doyOf mM; split <;> omega

theorem pad_small : ∀ i, i < 10 → ∀ j, j < 10 → padL ((i * 10 + j : Nat) : Int) 2 = [UInt8.ofNat (48 + i), UInt8.ofNat (48 + j)] := by decide +kernel
theorem pad_two {a b : UInt8} (h : digsL [a, b] = true) : padL (dv a b) 2 = [a, b] := by
  have h' : (48 ≤ a.toNat ∧ a.toNat ≤ 57) ∧ (48 ≤ b.toNat ∧ b.toNat ≤ 57) := by simpa [digsL, isDig] using h
  have e : dv a b = (((a.toNat - 48) * 10 + (b.toNat - 48) : Nat) : Int) := by
    unfold dv
    rw [numL_cons, numL_cons, numL_nil]
    simp
  rw [e, pad_small _ (by omega) _ (by omega)]
  congr 1
  · apply UInt8.toNat_inj.1; simp; omega
  · congr 1; apply UInt8.toNat_inj.1; simp; omega
theorem two_five {c : UInt8} {l : List UInt8} {zs : List Int} (hl : l.length = 5) (h : twoL c l = some zs) : ∃ a b, zs = [a, b] ∧ l = padL a 2 ++ [c] ++ padL b 2 := by
  match l, hl with
  | [a, b, d, e, f], _ =>
    simp only [twoL] at h
    split at h
    · rename_i h1
      simp only [Bool.and_eq_true, beq_iff_eq] at h1
      obtain ⟨⟨h1, rfl⟩, -⟩ := h1
      split at h
      · rename_i h2
        obtain rfl := Option.some.inj h
        exact ⟨dv a b, dv e f, rfl, by rw [pad_two h1, pad_two h2]; rfl⟩
      · cases h
    · cases h
theorem two_eight {c : UInt8} {l : List UInt8} {zs : List Int} (hl : l.length = 8) (h : twoL c l = some zs) : ∃ a b e, zs = [a, b, e] ∧ l = padL a 2 ++ [c] ++ padL b 2 ++ [c] ++ padL e 2 := by
  match l, hl with
  | [a, b, d, e, f, g, i, j], _ =>
    simp only [twoL] at h
    split at h
    · rename_i h1
      simp only [Bool.and_eq_true, beq_iff_eq] at h1
      obtain ⟨⟨h1, rfl⟩, -⟩ := h1
      split at h
      · rename_i h2
        simp only [Bool.and_eq_true, beq_iff_eq] at h2
        obtain ⟨⟨h2, rfl⟩, -⟩ := h2
        split at h
        · rename_i h3
          obtain rfl := Option.some.inj h
          exact ⟨dv a b, dv e f, dv i j, rfl, by rw [pad_two h1, pad_two h2, pad_two h3]; rfl⟩
        · cases h
      · cases h
    · cases h
theorem index_at {l : List UInt8} {c : UInt8} {p : Nat} (h : Lib.indexByte l c = p) : ∃ hp : p < l.length, l[p] = c := by
  induction l generalizing p with
  | nil => simp only [Lib.indexByte] at h; omega
  | cons b r ih =>
    simp only [Lib.indexByte] at h
    split at h
    · rename_i hb
      obtain rfl : p = 0 := by omega
      exact ⟨by simp, by simpa using hb⟩
    · split at h
      · omega
      · rename_i h1 h2
        have hb := index_bd r c
        simp only [beq_iff_eq] at h2
        obtain ⟨q, rfl⟩ : ∃ q, p = q + 1 := ⟨p - 1, by omega⟩
        obtain ⟨hq, hq2⟩ := ih (p := q) (by omega)
        exact ⟨by simp only [List.length_cons]; omega, by simpa using hq2⟩
/-- A text that has the shape is told by its parts. -/
theorem shape_text {l : List UInt8} (h : shB l = true) :
    l = yearL (shV l).y ++ [45] ++ padL (shV l).m 2 ++ [45] ++ padL (shV l).d 2 ++ [84] ++ padL (shV l).h 2 ++ [58] ++ padL (shV l).mi 2 ++ [58] ++ padL (shV l).s 2 ++ fracL (shV l).a ++ [90] := by
  have hV : shV l = ⟨ryV (shY l), nth (twoL 45 (shD l)) 0, nth (twoL 45 (shD l)) 1, nth (twoL 58 (shT l)) 0, nth (twoL 58 (shT l)) 1, nth (twoL 58 (shT l)) 2, rfV (shF l)⟩ := by simp [shV, h]
  simp only [shB, Bool.and_eq_true] at h
  obtain ⟨hC, hG⟩ := h
  simp only [shC, Bool.and_eq_true, decide_eq_true_eq] at hC
  obtain ⟨⟨hz, h7⟩, h9⟩ := hC
  simp only [shG, Bool.and_eq_true, beq_iff_eq] at hG
  obtain ⟨⟨⟨⟨g1, g2⟩, g3⟩, g4⟩, g5⟩ := hG
  obtain ⟨zd, hzd⟩ := Option.isSome_iff_exists.1 g2
  obtain ⟨zt, hzt⟩ := Option.isSome_iff_exists.1 g3
  obtain ⟨p, hp⟩ : ∃ p : Nat, atT l = p := ⟨(atT l).toNat, by omega⟩
  have hp2 : (atT l).toNat = p := by omega
  obtain ⟨hpl, hpc⟩ := index_at (show Lib.indexByte (cutZ l) 84 = (p : Int) from hp)
  have hl : l = cutZ l ++ [90] := by
    have := (List.isSuffixOf_iff_suffix).1 (show ([90] : List UInt8).isSuffixOf l = true from hz)
    obtain ⟨x, rfl⟩ := this
    unfold cutZ Lib.trimSuffix
    rw [if_pos hz]
    simp
  have lD : (shD l).length = 5 := by unfold shD; simp; omega
  have lT : (shT l).length = 8 := by unfold shT; simp; omega
  obtain ⟨a, b, hz1, hd⟩ := two_five lD hzd
  obtain ⟨x, y, u, hz2, ht⟩ := two_eight lT hzt
  have hY : shY l = yearL (ryV (shY l)) := by
    simp only [ryB, Bool.and_eq_true, beq_iff_eq] at g1
    rw [(ry_yes g1.1).1]; exact g1.2.symm
  have hF : shF l = fracL (rfV (shF l)) := by
    by_cases e : shF l = []
    · rw [e]; rfl
    · simp only [rfB, Bool.or_eq_true, Bool.and_eq_true, beq_iff_eq, List.isEmpty_iff] at g4
      rcases g4 with g4 | g4
      · exact absurd g4 e
      · rw [(rf_yes e g4.1).1]; exact g4.2.symm
  have hcut : cutZ l = shY l ++ [45] ++ shD l ++ [84] ++ shT l ++ shF l := by
    unfold shY shD shT shF
    rw [hp2] at g5 ⊢
    generalize cutZ l = z at *
    have e1 : z.drop (p - 6) = 45 :: z.drop (p - 5) := by
      rw [getD_drop (show p - 6 < z.length by omega), show p - 6 + 1 = p - 5 by omega]
      rw [List.getD_eq_getElem?_getD, List.getElem?_eq_getElem (show p - 6 < z.length by omega)] at g5
      simp only [Option.getD_some] at g5
      rw [g5]
    have e2 : z.drop p = 84 :: z.drop (p + 1) := by rw [getD_drop hpl, hpc]
    have e3 : z.drop (p - 5) = (z.drop (p - 5)).take 5 ++ z.drop p := by
      have := List.take_append_drop 5 (z.drop (p - 5))
      rw [List.drop_drop, show p - 5 + 5 = p by omega] at this
      exact this.symm
    have e4 : z.drop (p + 1) = (z.drop (p + 1)).take 8 ++ z.drop (p + 9) := by
      have := List.take_append_drop 8 (z.drop (p + 1))
      rw [List.drop_drop, show p + 1 + 8 = p + 9 by omega] at this
      exact this.symm
    conv => lhs; rw [← List.take_append_drop (p - 6) z, e1, e3, e2, e4]
    simp
  rw [hV, hzd, hzt, hz1, hz2]
  conv => lhs; rw [hl, hcut, hd, ht, hY, hF]
  simp [nth]

theorem hok_parts {h m s a : Int} (q : hOk h m s a = true) : 0 ≤ h ∧ h < 24 ∧ 0 ≤ m ∧ m < 60 ∧ 0 ≤ a ∧ a < 1000000000000000000 ∧ ((0 ≤ s ∧ s < 60) ∨ (s = 60 ∧ h = 23 ∧ m = 59)) := by
  simpa [hOk] using q
theorem time_inv {h m s a : Int} (q : hOk h m s a = true) : tOk (hSec h m s a) (hAtto h m s a) = true ∧ tH (hSec h m s a) (hAtto h m s a) = h ∧ tM (hSec h m s a) (hAtto h m s a) = m ∧ tS (hSec h m s a) (hAtto h m s a) = s ∧ tA (hSec h m s a) (hAtto h m s a) = a := by
  obtain ⟨q1, q2, q3, q4, q5, q6, q7⟩ := hok_parts q
  have e1 : hSec h m s a = h * 3600 + m * 60 + s := by simp [hSec, q]
  have e2 : hAtto h m s a = a := by simp [hAtto, q]
  rw [e1, e2]
  have ht : tOk (h * 3600 + m * 60 + s) a = true := by unfold tOk; simp; omega
  refine ⟨ht, ?_⟩
  rcases q7 with ⟨q7, q8⟩ | ⟨rfl, rfl, rfl⟩
  · obtain ⟨t1, t2, t3, t4, t5⟩ := t_lo (s := h * 3600 + m * 60 + s) (a := a) (by omega) (by omega) q5 q6
    rw [t1, t2, t3, t4]; omega
  · obtain ⟨t1, t2, t3, t4, t5⟩ := t_hi (a := a) q5 q6
    exact ⟨t1, t2, t3, t4⟩

/-- IsoSame, plain. -/
theorem iso_same {l : List UInt8} (h : parseE l = 0) : printL (parseD l) (parseS l) (parseA l) = l ∧ printE (parseD l) (parseS l) (parseA l) = 0 := by
  obtain ⟨h1, h2, h3⟩ := parse_yes h
  rw [h1, h2, h3]
  have hB : shB l = true := by cases k : shB l with
    | true => rfl
    | false => simp [parseE, k] at h
  have hO : shOk l = true := by cases k : shOk l with
    | true => rfl
    | false => simp [parseE, hB, k] at h
  have hE : dE (shV l).y (shV l).m (shV l).d = 0 := by simpa [parseE, hB, hO] using h
  have hT := shape_text hB
  simp only [shOk, Bool.and_eq_true] at hO
  obtain ⟨hd, ht⟩ := hO
  obtain ⟨t1, t2, t3, t4, t5⟩ := time_inv ht
  have hN : far (shV l).y = false ∧ nOk (dayOf (shV l).y (shV l).m (shV l).d) = true := by
    unfold dE at hE
    rw [hd] at hE
    revert hE
    cases far (shV l).y <;> cases nOk (dayOf (shV l).y (shV l).m (shV l).d) <;> simp
  have hdn : dN (shV l).y (shV l).m (shV l).d = dayOf (shV l).y (shV l).m (shV l).d := (d_yes hd hN.1 hN.2).1
  obtain ⟨i1, i2, i3⟩ := date_inv hd
  obtain ⟨j1, j2, j3, j4⟩ := g_yes hN.2
  rw [hdn]
  have hp : printL (dayOf (shV l).y (shV l).m (shV l).d) (hSec (shV l).h (shV l).mi (shV l).s (shV l).a) (hAtto (shV l).h (shV l).mi (shV l).s (shV l).a) = labelL (dayOf (shV l).y (shV l).m (shV l).d) (hSec (shV l).h (shV l).mi (shV l).s (shV l).a) (hAtto (shV l).h (shV l).mi (shV l).s (shV l).a) := by
    simp [printL, t1, hN.2]
  refine ⟨?_, by simp [printE, t1, hN.2]⟩
  rw [hp]
  unfold labelL
  rw [j1, j2, j3, i1, i2, i3, t2, t3, t4, t5]
  exact hT.symm
end Go.Proofs.YtapbfkofoamaaaaGreatDoor
