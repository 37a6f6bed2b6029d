/- Plain words for labels as text. No program is named here. -/
import Derived.Test.YtapbfkofoamaaaaGreatDoorCalP
import Derived.Lib.ItoaLen
import Derived.Lib.Repeat
import Derived.Lib.TrimByte
import Derived.Lib.Atoi
import Derived.Lib.SlTrimSet
import Derived.Lib.Strings
import Derived.Lib.Bytealg
namespace Go.Proofs.YtapbfkofoamaaaaGreatDoor
def padL (n : Int) (width : Nat) : List UInt8 := Lib.repeatL [48] (width - (Lib.itoa n).length) ++ Lib.itoa n
def yearL (n : Int) : List UInt8 := if n < 0 then 45 :: padL (-n) 4 else if 9999 < n then 43 :: padL n 4 else padL n 4
def fracL (a : Int) : List UInt8 := if a = 0 then [] else 46 :: Lib.trimRightB (padL a 18) 48
theorem padL_len (n : Int) (h0 : -9223372036854775808 ≤ n) (h1 : n ≤ 9223372036854775807) (width : Nat) (hw : width ≤ 100) : (padL n width).length ≤ 121 := by
  have := Lib.itoa_length_le n h0 h1
  simp [padL, Lib.repeatL_length]; omega
theorem trimR_len (l : List UInt8) (c : UInt8) : (Lib.trimRightB l c).length ≤ l.length := by
  unfold Lib.trimRightB
  have := (List.dropWhile_sublist (l := l.reverse) (· == c)).length_le
  simpa using this
def labelL (d s a : Int) : List UInt8 := yearL (gYo d) ++ [45] ++ padL (gMo d) 2 ++ [45] ++ padL (gDo d) 2 ++ [84] ++ padL (tH s a) 2 ++ [58] ++ padL (tM s a) 2 ++ [58] ++ padL (tS s a) 2 ++ fracL (tA s a) ++ [90]
def printL (d s a : Int) : List UInt8 := if tOk s a && nOk d then labelL d s a else []
def printE (d s a : Int) : Int := if !tOk s a then 1 else if !nOk d then 2 else 0
theorem t_bd {s a : Int} (h : tOk s a = true) : 0 ≤ tH s a ∧ tH s a ≤ 23 ∧ 0 ≤ tM s a ∧ tM s a ≤ 59 ∧ 0 ≤ tS s a ∧ tS s a ≤ 60 ∧ 0 ≤ tA s a ∧ tA s a < 1000000000000000000 ∧ tE s a = 0 := by
  have h' : 0 ≤ s ∧ s ≤ 86400 ∧ 0 ≤ a ∧ a < 1000000000000000000 := by simpa [tOk] using h
  by_cases k : s ≤ 86399
  · obtain ⟨e1, e2, e3, e4, e5⟩ := t_lo h'.1 k h'.2.2.1 h'.2.2.2
    rw [e1, e2, e3, e4, e5]; omega
  · obtain rfl : s = 86400 := by omega
    obtain ⟨e1, e2, e3, e4, e5⟩ := t_hi h'.2.2.1 h'.2.2.2
    rw [e1, e2, e3, e4, e5]; omega
theorem g_bd {d : Int} (h : nOk d = true) : -4000000000 ≤ gYo d ∧ gYo d ≤ 4000000000 ∧ 1 ≤ gMo d ∧ gMo d ≤ 12 ∧ 1 ≤ gDo d ∧ gDo d ≤ 31 ∧ gE d = 0 := by
  have h' : -1099511627776 ≤ d ∧ d ≤ 1099511627776 := by simpa [nOk] using h
  obtain ⟨e1, e2, e3, e4⟩ := g_yes h
  rw [e1, e2, e3, e4]
  have g0 := of_bd (n := d)
  have g2 := yr_bd g0.1 g0.2
  have g3 := dy_bd g0.1 g0.2
  have g4 := mo_bd g3.1 g3.2
  have k1 : -8000000 ≤ eraOf d ∧ eraOf d ≤ 8000000 := by unfold eraOf; omega
  have k2 : 0 ≤ dyOf (ofEra d) - (153 * moOf (dyOf (ofEra d)) + 2) / 5 ∧ dyOf (ofEra d) - (153 * moOf (dyOf (ofEra d)) + 2) / 5 ≤ 30 := by unfold moOf; omega
  unfold gY gM gD
  split <;> omega
theorem year_len (n : Int) (h0 : -9223372036854775807 ≤ n) (h1 : n ≤ 9223372036854775807) : (yearL n).length ≤ 122 := by
  have hp1 := padL_len n (by omega) h1 4 (by omega)
  have hp2 := padL_len (-n) (by omega) (by omega) 4 (by omega)
  unfold yearL
  split
  · simp; omega
  · split
    · simp; omega
    · omega
theorem frac_len (n : Int) (h0 : 0 ≤ n) (h1 : n ≤ 9223372036854775807) : (fracL n).length ≤ 122 := by
  have hp1 := padL_len n (by omega) h1 18 (by omega)
  have := trimR_len (padL n 18) 48
  unfold fracL
  split
  · simp
  · simp; omega
def isDig (c : UInt8) : Bool := decide (48 ≤ c.toNat ∧ c.toNat ≤ 57)
def digsL (l : List UInt8) : Bool := l.all isDig && !l.isEmpty
theorem take_step (s : ByteArray) (pos : Nat) (h : pos < s.size) (H : (s.data.toList.take pos).all isDig = true) (hb : isDig (s[pos]'h) = true) : (s.data.toList.take (pos + 1)).all isDig = true := by
  have hl : pos < s.data.toList.length := by simpa using h
  rw [List.take_succ_eq_append_getElem hl, List.all_append, H]
  have : s.data.toList[pos] = s[pos]'h := by simp; rfl
  simp [this, hb]
theorem not_digs (s : ByteArray) (pos : Nat) (h : pos < s.size) (hb : isDig (s[pos]'h) = false) : digsL s.data.toList = false := by
  have hl : pos < s.data.toList.length := by simpa using h
  have e : s.data.toList[pos] = s[pos]'h := by simp; rfl
  have : s.data.toList.all isDig = false := by
    rw [← Bool.not_eq_true, List.all_eq_true]
    intro k
    have := k _ (List.getElem_mem hl)
    rw [e, hb] at this
    cases this
  simp [digsL, this]
theorem all_digs (s : ByteArray) (pos : Nat) (h : ¬ pos < s.size) (H : (s.data.toList.take pos).all isDig = true) : digsL s.data.toList = !s.data.toList.isEmpty := by
  rw [List.take_of_length_le (by simpa using h)] at H
  simp [digsL, H]
/-- The number of a row of digits. -/
def numL (acc : Nat) (l : List UInt8) : Nat := l.foldl (fun a b => a * 10 + (b.toNat - 48)) acc
theorem numL_nil (acc : Nat) : numL acc [] = acc := by unfold numL; rw [List.foldl_nil]
theorem numL_cons (acc : Nat) (b : UInt8) (r : List UInt8) : numL acc (b :: r) = numL (acc * 10 + (b.toNat - 48)) r := by unfold numL; rw [List.foldl_cons]
theorem decFrom_num (l : List UInt8) : ∀ acc : Nat, l.all isDig = true → Lib.decFrom acc l = some (numL acc l) := by
  induction l with
  | nil => intro _ _; simp [Lib.decFrom, numL_nil]
  | cons b r ih =>
    intro acc h
    simp only [List.all_cons, Bool.and_eq_true] at h
    have hb : 48 ≤ b.toNat ∧ b.toNat ≤ 57 := by simpa [isDig] using h.1
    simp only [Lib.decFrom, Lib.digitVal, hb, and_self, if_true, numL_cons]
    exact ih _ h.2
theorem atoi_num {l : List UInt8} (h : digsL l = true) : Lib.atoi l = some (numL 0 l : Int) := by
  cases l with
  | nil => simp [digsL] at h
  | cons b r =>
    have h' : (b :: r).all isDig = true := by simp only [digsL, Bool.and_eq_true] at h; exact h.1
    have hb : isDig b = true := by simp only [List.all_cons, Bool.and_eq_true] at h'; exact h'.1
    simp only [isDig, decide_eq_true_eq] at hb
    have e1 : (b == 45) = false := by rw [beq_eq_false_iff_ne]; rintro rfl; simp at hb
    have e2 : (b == 43) = false := by rw [beq_eq_false_iff_ne]; rintro rfl; simp at hb
    simp only [Lib.atoi, e1, e2, Lib.decNat, List.isEmpty_cons, decFrom_num _ 0 h']
    simp
theorem numL_lt (l : List UInt8) : ∀ acc : Nat, l.all isDig = true → numL acc l < (acc + 1) * 10 ^ l.length := by
  induction l with
  | nil => intro acc _; simp [numL_nil]
  | cons b r ih =>
    intro acc h
    simp only [List.all_cons, Bool.and_eq_true] at h
    have hb : 48 ≤ b.toNat ∧ b.toNat ≤ 57 := by simpa [isDig] using h.1
    have := ih (acc * 10 + (b.toNat - 48)) h.2
    simp only [numL_cons, List.length_cons]
    refine Nat.lt_of_lt_of_le this ?_
    rw [Nat.pow_succ, Nat.mul_comm (10 ^ r.length) 10, ← Nat.mul_assoc]
    exact Nat.mul_le_mul_right _ (by omega)
def dv (a b : UInt8) : Int := ((numL 0 [a, b] : Nat) : Int)
def twoL (c : UInt8) : List UInt8 → Option (List Int)
  | [a, b] => if digsL [a, b] then some [dv a b] else none
  | a :: b :: d :: r => if digsL [a, b] && d == c && !r.isEmpty then (twoL c r).map (dv a b :: ·) else none
  | _ => none
theorem getD_drop {l : List UInt8} {n : Nat} (h : n < l.length) : l.drop n = l[n] :: l.drop (n + 1) := List.drop_eq_getElem_cons h
/-- One round of 'two': the two bytes at 3k, and what follows. -/
theorem two_last {l : List UInt8} {c : UInt8} {k : Nat} (h : l.length = 3 * k + 2) : twoL c (l.drop (3 * k)) = if digsL ((l.drop (3 * k)).take 2) then some [dv (l.getD (3 * k) 0) (l.getD (3 * k + 1) 0)] else none := by
  rw [getD_drop (by omega), getD_drop (by omega), List.drop_of_length_le (by omega)]
  simp [twoL, List.getD, show 3 * k < l.length by omega, show 3 * k + 1 < l.length by omega]
theorem two_more {l : List UInt8} {c : UInt8} {k : Nat} (h : 3 * k + 5 ≤ l.length) : twoL c (l.drop (3 * k)) = if digsL ((l.drop (3 * k)).take 2) && l.getD (3 * k + 2) 0 == c then (twoL c (l.drop (3 * (k + 1)))).map (dv (l.getD (3 * k) 0) (l.getD (3 * k + 1) 0) :: ·) else none := by
  have e : (l.drop (3 * (k + 1))).isEmpty = false := by simp; omega
  rw [getD_drop (show 3 * k < l.length by omega), getD_drop (show 3 * k + 1 < l.length by omega), getD_drop (show 3 * k + 1 + 1 < l.length by omega), show 3 * k + 1 + 1 + 1 = 3 * (k + 1) by omega]
  have e2 : l.drop (3 * (k + 1)) ≠ [] := by simpa using e
  cases hd : l.drop (3 * (k + 1)) with
  | nil => exact absurd hd e2
  | cons x r => simp [twoL, List.getD, show 3 * k < l.length by omega, show 3 * k + 1 < l.length by omega, show 3 * k + 2 < l.length by omega]
theorem pair_num {l : List UInt8} {n : Nat} (h : n + 2 ≤ l.length) : ((numL 0 ((l.drop n).take 2) : Nat) : Int) = dv (l.getD n 0) (l.getD (n + 1) 0) := by
  have e : (l.drop n).take 2 = [l.getD n 0, l.getD (n + 1) 0] := by
    simp only [List.getD_eq_getElem?_getD, List.getElem?_eq_getElem (show n < l.length by omega), List.getElem?_eq_getElem (show n + 1 < l.length by omega), Option.getD_some]
    rw [getD_drop (show n < l.length by omega), List.take_succ_cons, getD_drop (show n + 1 < l.length by omega), List.take_succ_cons, List.take_zero]
  rw [e]; rfl
theorem two_go {l : List UInt8} {c : UInt8} {k m : Nat} {zs : List Int} (hl : l.length = 3 * m + 2) (hk : k < m) (hd : digsL ((l.drop (3 * k)).take 2) = true) (hc : l.getD (3 * k + 2) 0 = c)
    (H : twoL c l = (if k ≤ m then (twoL c (l.drop (3 * k))).map (zs ++ ·) else some zs)) :
    twoL c l = (if k + 1 ≤ m then (twoL c (l.drop (3 * (k + 1)))).map ((zs ++ [((numL 0 ((l.drop (3 * k)).take 2) : Nat) : Int)]) ++ ·) else some (zs ++ [((numL 0 ((l.drop (3 * k)).take 2) : Nat) : Int)])) := by
  rw [if_pos (by omega)] at H
  rw [H, two_more (by omega), hd, hc, if_pos (show k + 1 ≤ m by omega), pair_num (by omega)]
  simp [Function.comp_def]
theorem two_fin {l : List UInt8} {c : UInt8} {k m : Nat} {zs : List Int} (hl : l.length = 3 * m + 2) (hk : k = m) (hd : digsL ((l.drop (3 * k)).take 2) = true)
    (H : twoL c l = (if k ≤ m then (twoL c (l.drop (3 * k))).map (zs ++ ·) else some zs)) :
    twoL c l = (if k + 1 ≤ m then (twoL c (l.drop (3 * (k + 1)))).map ((zs ++ [((numL 0 ((l.drop (3 * k)).take 2) : Nat) : Int)]) ++ ·) else some (zs ++ [((numL 0 ((l.drop (3 * k)).take 2) : Nat) : Int)])) := by
  rw [if_pos (by omega)] at H
  rw [H, two_last (by omega), hd, if_neg (show ¬ k + 1 ≤ m by omega), pair_num (by omega)]
  simp
theorem two_bad {l : List UInt8} {c : UInt8} {k m : Nat} {zs : List Int} (hl : l.length = 3 * m + 2) (hk : k ≤ m) (hd : digsL ((l.drop (3 * k)).take 2) = false)
    (H : twoL c l = (if k ≤ m then (twoL c (l.drop (3 * k))).map (zs ++ ·) else some zs)) : twoL c l = none := by
  rw [if_pos hk] at H
  by_cases e : k = m
  · rw [H, two_last (by omega), hd]; simp
  · rw [H, two_more (by omega), hd]; simp
theorem two_sep {l : List UInt8} {c : UInt8} {k m : Nat} {zs : List Int} (hl : l.length = 3 * m + 2) (hk : k < m) (hc : l.getD (3 * k + 2) 0 ≠ c)
    (H : twoL c l = (if k ≤ m then (twoL c (l.drop (3 * k))).map (zs ++ ·) else some zs)) : twoL c l = none := by
  rw [if_pos (by omega)] at H
  rw [H, two_more (by omega), show (l.getD (3 * k + 2) 0 == c) = false from beq_eq_false_iff_ne.2 hc]; simp
theorem getD_at (s : ByteArray) (n : Nat) (h : n < s.size) : s.data.toList.getD n 0 = s[n]'h := by
  have hl : n < s.data.toList.length := by simpa using h
  rw [List.getD_eq_getElem?_getD, List.getElem?_eq_getElem hl]
  simp; rfl
def bodyL (l : List UInt8) : List UInt8 := Lib.trimLeftS l [43, 45]
def ryC (l : List UInt8) : Bool := decide (l.length - (bodyL l).length ≤ 1) && digsL (bodyL l) && decide ((bodyL l).length ≤ 18)
def ryN (l : List UInt8) : Int := if l.head? = some 45 then -((numL 0 (bodyL l) : Nat) : Int) else ((numL 0 (bodyL l) : Nat) : Int)
def ryV (l : List UInt8) : Int := if ryC l then ryN l else 0
def ryB (l : List UInt8) : Bool := ryC l && yearL (ryN l) == l
theorem body_le (l : List UInt8) : (bodyL l).length ≤ l.length := (List.dropWhile_sublist (l := l) _).length_le
theorem ry_no {l : List UInt8} (h : ryC l = false) : ryV l = 0 ∧ ryB l = false := by simp [ryV, ryB, h]
theorem ry_yes {l : List UInt8} (h : ryC l = true) : ryV l = ryN l ∧ ryB l = (yearL (ryN l) == l) := by simp [ryV, ryB, h]
theorem num_bd {l : List UInt8} (h : digsL l = true) (hl : l.length ≤ 18) : numL 0 l < 1000000000000000000 := by
  simp only [digsL, Bool.and_eq_true] at h
  have := numL_lt l 0 h.1
  have h2 : 10 ^ l.length ≤ 10 ^ 18 := Nat.pow_le_pow_right (by omega) hl
  have h3 : (10 : Nat) ^ 18 = 1000000000000000000 := by decide
  omega
def fbL (l : List UInt8) : List UInt8 := Lib.trimPrefix l [46]
def rfC (l : List UInt8) : Bool := Lib.hasPrefix l [46] && digsL (fbL l) && decide ((fbL l).length ≤ 18)
def rfN (l : List UInt8) : Int := ((numL 0 (fbL l ++ Lib.repeatL [48] (18 - (fbL l).length)) : Nat) : Int)
def rfV (l : List UInt8) : Int := if l = [] then 0 else if rfC l then rfN l else 0
def rfB (l : List UInt8) : Bool := l.isEmpty || (rfC l && fracL (rfN l) == l)
theorem rf_nil {l : List UInt8} (h : l = []) : rfV l = 0 ∧ rfB l = true := by simp [rfV, rfB, h]
theorem rf_no {l : List UInt8} (h0 : l ≠ []) (h : rfC l = false) : rfV l = 0 ∧ rfB l = false := by simp [rfV, rfB, h, h0]
theorem rf_yes {l : List UInt8} (h0 : l ≠ []) (h : rfC l = true) : rfV l = rfN l ∧ rfB l = (fracL (rfN l) == l) := by simp [rfV, rfB, h, h0]
theorem rep_digs (c : Nat) : (Lib.repeatL [48] c).all isDig = true := by
  induction c with
  | zero => rfl
  | succ c ih => simp [Lib.repeatL, ih]; decide
theorem fb_digs {l : List UInt8} {c : Nat} (h : digsL l = true) : digsL (l ++ Lib.repeatL [48] c) = true := by
  simp only [digsL, Bool.and_eq_true] at h ⊢
  rw [List.all_append, h.1, rep_digs]
  cases l with
  | nil => simp at h
  | cons => simp
structure Sh where
  y : Int
  m : Int
  d : Int
  h : Int
  mi : Int
  s : Int
  a : Int
/-- The text without its end; where its T stands. -/
def cutZ (l : List UInt8) : List UInt8 := Lib.trimSuffix l [90]
def atT (l : List UInt8) : Int := Lib.indexByte (cutZ l) 84
def shC (l : List UInt8) : Bool := Lib.hasSuffix l [90] && decide (7 ≤ atT l) && decide (atT l + 9 ≤ (cutZ l).length)
def shY (l : List UInt8) : List UInt8 := (cutZ l).take ((atT l).toNat - 6)
def shD (l : List UInt8) : List UInt8 := ((cutZ l).drop ((atT l).toNat - 5)).take 5
def shT (l : List UInt8) : List UInt8 := ((cutZ l).drop ((atT l).toNat + 1)).take 8
def shF (l : List UInt8) : List UInt8 := (cutZ l).drop ((atT l).toNat + 9)
def shG (l : List UInt8) : Bool := ryB (shY l) && (twoL 45 (shD l)).isSome && (twoL 58 (shT l)).isSome && rfB (shF l) && (cutZ l).getD ((atT l).toNat - 6) 0 == 45
def shB (l : List UInt8) : Bool := shC l && shG l
def nth (o : Option (List Int)) (k : Nat) : Int := (o.getD []).getD k 0
def shV (l : List UInt8) : Sh := if shB l then ⟨ryV (shY l), nth (twoL 45 (shD l)) 0, nth (twoL 45 (shD l)) 1, nth (twoL 58 (shT l)) 0, nth (twoL 58 (shT l)) 1, nth (twoL 58 (shT l)) 2, rfV (shF l)⟩ else ⟨0, 0, 0, 0, 0, 0, 0⟩
theorem two_len {c : UInt8} {l : List UInt8} {zs : List Int} : ∀ n, l.length ≤ n → twoL c l = some zs → l.length + 1 = 3 * zs.length := by
  intro n
  induction n generalizing l zs with
  | zero => intro h h2; have := List.eq_nil_of_length_eq_zero (Nat.le_zero.1 h); subst this; simp [twoL] at h2
  | succ n ih =>
    intro h h2
    match l, h, h2 with
    | [], _, h2 => simp [twoL] at h2
    | [a], _, h2 => simp [twoL] at h2
    | [a, b], _, h2 =>
      simp only [twoL] at h2
      split at h2
      · obtain rfl := Option.some.inj h2; rfl
      · cases h2
    | a :: b :: d :: r, h, h2 =>
      simp only [twoL] at h2
      split at h2
      · obtain ⟨ys, hy, rfl⟩ := Option.map_eq_some_iff.1 h2
        have := ih (l := r) (by simp at h; omega) hy
        simp; omega
      · cases h2
theorem sh_no {l : List UInt8} (h : shB l = false) : shV l = ⟨0, 0, 0, 0, 0, 0, 0⟩ := by simp [shV, h]
theorem index_bd (l : List UInt8) (c : UInt8) : -1 ≤ Lib.indexByte l c ∧ Lib.indexByte l c < (l.length : Int) := by
  induction l with
  | nil => simp [Lib.indexByte]
  | cons b r ih =>
    simp only [Lib.indexByte, List.length_cons]
    split
    · omega
    · split
      · omega
      · omega
theorem nth_at {o : Option (List Int)} {zs : List Int} {k : Nat} (h : o = some zs) (hk : k < zs.length) : zs[k]? = some (nth o k) := by
  subst h
  simp [nth, List.getD, hk]
def shOk (l : List UInt8) : Bool := dOk (shV l).y (shV l).m (shV l).d && hOk (shV l).h (shV l).mi (shV l).s (shV l).a
def parseE (l : List UInt8) : Int := if !shB l then 4 else if !shOk l then 5 else dE (shV l).y (shV l).m (shV l).d
def parseD (l : List UInt8) : Int := if parseE l = 0 then dN (shV l).y (shV l).m (shV l).d else 0
def parseS (l : List UInt8) : Int := if parseE l = 0 then hSec (shV l).h (shV l).mi (shV l).s (shV l).a else 0
def parseA (l : List UInt8) : Int := if parseE l = 0 then hAtto (shV l).h (shV l).mi (shV l).s (shV l).a else 0
theorem parse_no {l : List UInt8} (h : parseE l ≠ 0) : parseD l = 0 ∧ parseS l = 0 ∧ parseA l = 0 := by simp [parseD, parseS, parseA, h]
theorem parse_yes {l : List UInt8} (h : parseE l = 0) : parseD l = dN (shV l).y (shV l).m (shV l).d ∧ parseS l = hSec (shV l).h (shV l).mi (shV l).s (shV l).a ∧ parseA l = hAtto (shV l).h (shV l).mi (shV l).s (shV l).a := by simp [parseD, parseS, parseA, h]
/-- The ways that 'Parse' goes. -/
theorem parse_ways {l : List UInt8} {v : Sh} {ok : Bool} (hv : shV l = v) (hok : shB l = ok) :
    (ok = false ∧ (parseD l = 0 ∧ parseS l = 0 ∧ parseA l = 0 ∧ parseE l = 4)) ∨
    (ok = true ∧ dOk v.y v.m v.d = false ∧ (parseD l = 0 ∧ parseS l = 0 ∧ parseA l = 0 ∧ parseE l = 5)) ∨
    (ok = true ∧ dOk v.y v.m v.d = true ∧ hOk v.h v.mi v.s v.a = false ∧ (parseD l = 0 ∧ parseS l = 0 ∧ parseA l = 0 ∧ parseE l = 5)) ∨
    (ok = true ∧ dOk v.y v.m v.d = true ∧ hOk v.h v.mi v.s v.a = true ∧ dE v.y v.m v.d ≠ 0 ∧ (parseD l = 0 ∧ parseS l = 0 ∧ parseA l = 0 ∧ parseE l = dE v.y v.m v.d)) ∨
    (ok = true ∧ dOk v.y v.m v.d = true ∧ hOk v.h v.mi v.s v.a = true ∧ dE v.y v.m v.d = 0 ∧ (parseD l = dN v.y v.m v.d ∧ parseS l = hSec v.h v.mi v.s v.a ∧ parseA l = hAtto v.h v.mi v.s v.a ∧ parseE l = 0)) := by
  subst hv hok
  cases h1 : shB l with
  | false => exact Or.inl ⟨rfl, by simp [parseD, parseS, parseA, parseE, h1]⟩
  | true =>
    cases h2 : dOk (shV l).y (shV l).m (shV l).d with
    | false => exact Or.inr (Or.inl ⟨rfl, rfl, by simp [parseD, parseS, parseA, parseE, h1, shOk, h2]⟩)
    | true =>
      cases h3 : hOk (shV l).h (shV l).mi (shV l).s (shV l).a with
      | false => exact Or.inr (Or.inr (Or.inl ⟨rfl, rfl, rfl, by simp [parseD, parseS, parseA, parseE, h1, shOk, h2, h3]⟩))
      | true =>
        by_cases h4 : dE (shV l).y (shV l).m (shV l).d = 0
        · exact Or.inr (Or.inr (Or.inr (Or.inr ⟨rfl, rfl, rfl, h4, by simp [parseD, parseS, parseA, parseE, h1, shOk, h2, h3, h4]⟩)))
        · exact Or.inr (Or.inr (Or.inr (Or.inl ⟨rfl, rfl, rfl, h4, by simp [parseD, parseS, parseA, parseE, h1, shOk, h2, h3, h4]⟩)))
end Go.Proofs.YtapbfkofoamaaaaGreatDoor
