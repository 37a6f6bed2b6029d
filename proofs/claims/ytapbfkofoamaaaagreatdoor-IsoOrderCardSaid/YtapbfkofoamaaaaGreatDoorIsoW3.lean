/- More calls of iso that read a text. -/
import Derived.Test.YtapbfkofoamaaaaGreatDoorIsoW2
namespace Go.Proofs.YtapbfkofoamaaaaGreatDoor
open Go.RowKit
set_option linter.unusedVariables false
set_option linter.unusedSimpArgs false

theorem ret_ib {a a' : Int} {b b' : Bool} (h1 : a = a') (h2 : b = b') : Ending.returned (.tuple #[.int .i64 a, .bool b]) = .returned (.tuple #[.int .i64 a', .bool b']) := by rw [h1, h2]

set_option maxHeartbeats 1000000 in
theorem readYear_any (s : ByteArray) (w : World) (hs : s.size ≤ 140737488355328) (hT : TabPow w) :
    Calls Tryz.prog 127 #[.string s] w fun e w' => e = .returned (.tuple #[.int .i64 (ryV s.data.toList), .bool (ryB s.data.toList)]) ∧ Below w.heap.size w w' := by
  have HT := Lib.hid hT
  clear hT
  have hble := body_le s.data.toList
  have hsz : s.data.toList.length = s.size := by simp
  generalize hb : bodyL s.data.toList = b at hble
  have HB := Lib.hid hb
  have hbl : b.length ≤ s.size := by omega
  have HSZ := Lib.hid hsz
  clear hb hsz hble
  have no : ryC s.data.toList = false → Calls Tryz.prog 127 #[.string s] w fun e w' => e = .returned (.tuple #[.int .i64 (ryV s.data.toList), .bool (ryB s.data.toList)]) ∧ Below w.heap.size w w' := by
    intro hc
    have hC := Lib.hid (ry_no hc)
    have hc' : ¬ (s.size - b.length ≤ 1 ∧ digsL b = true ∧ b.length ≤ 18) := by
      rintro ⟨k1, k2, k3⟩
      simp [ryC, HB.out, HSZ.out, k1, k2, k3] at hc
    by_cases c1 : 1 < (s.size : Int) - b.length
    · go_enter Tryz.func127, Tryz.ntmps127
      go_wp2_with fail
      refine (trimL_any _ [43, 45] (by decide) (by decide) _).mono ?_
      rw [show Lib.trimLeftS s.data.toList [43, 45] = b from HB.out]
      rintro e w1 ⟨rfl, hb1⟩
      go_wp2
      go_ret2
      exact ⟨ret_ib hC.out.1.symm hC.out.2.symm, hb1⟩
    · by_cases c2 : digsL b = true
      · have c3 : ¬ b.length ≤ 18 := fun k => hc' ⟨by omega, c2, k⟩
        go_enter Tryz.func127, Tryz.ntmps127
        go_wp2_with fail
        refine (trimL_any _ [43, 45] (by decide) (by decide) _).mono ?_
        rw [show Lib.trimLeftS s.data.toList [43, 45] = b from HB.out]
        rintro e w1 ⟨rfl, hb1⟩
        go_wp2_with (first | (go_at_call 168; refine (digits_any _ _ (by simp [ByteArray.size]; omega)).mono ?_; rintro e w2 ⟨rfl, hb2⟩))
        go_ret2
        exact ⟨ret_ib hC.out.1.symm hC.out.2.symm, below_next hb1 hb2⟩
      · have c3 : digsL b = false := by simpa using c2
        go_enter Tryz.func127, Tryz.ntmps127
        go_wp2_with fail
        refine (trimL_any _ [43, 45] (by decide) (by decide) _).mono ?_
        rw [show Lib.trimLeftS s.data.toList [43, 45] = b from HB.out]
        rintro e w1 ⟨rfl, hb1⟩
        go_wp2_with (first | (go_at_call 168; refine (digits_any _ _ (by simp [ByteArray.size]; omega)).mono ?_; rintro e w2 ⟨rfl, hb2⟩))
        go_ret2
        exact ⟨ret_ib hC.out.1.symm hC.out.2.symm, below_next hb1 hb2⟩
  by_cases hc : ryC s.data.toList = true
  · clear no
    have hc' : s.size - b.length ≤ 1 ∧ digsL b = true ∧ b.length ≤ 18 := by
      simpa [ryC, HB.out, HSZ.out, and_assoc] using hc
    obtain ⟨c1, c2, c3⟩ := hc'
    have c1' : (s.size : Int) - b.length ≤ 1 := by omega
    have hn := num_bd c2 c3
    have hC := Lib.hid (ry_yes hc)
    have hat := Lib.hid (atoi_num (l := b) c2)
    have hne : 0 < s.size := by
      have : b.length ≠ 0 := fun h => by have := List.eq_nil_of_length_eq_zero h; subst this; simp [digsL] at c2
      omega
    have hN : ryN s.data.toList = if s[0].toNat = 45 then -((numL 0 b : Nat) : Int) else ((numL 0 b : Nat) : Int) := by
      have e : s.data.toList.head? = some s[0] := by
        rw [List.head?_eq_getElem?, List.getElem?_eq_getElem (by simpa using hne)]; simp; rfl
      unfold ryN
      rw [e, HB.out]
      have : (some s[0] = some (45 : UInt8)) ↔ s[0].toNat = 45 := by
        rw [Option.some.injEq, ← UInt8.toNat_inj]; rfl
      simp only [this]
    clear hc
    by_cases c4 : s[0].toNat = 45
    · rw [if_pos c4] at hN
      have HN := Lib.hid hN
      clear hN
      have c4' : ((s[0].toNat : Int) == 45) = true := by rw [beq_iff_eq]; omega
      go_enter Tryz.func127, Tryz.ntmps127
      go_wp2_with fail
      refine (trimL_any _ [43, 45] (by decide) (by decide) _).mono ?_
      rw [show Lib.trimLeftS s.data.toList [43, 45] = b from HB.out]
      rintro e w1 ⟨rfl, hb1⟩
      go_wp2_with (first | (go_at_call 168; refine (digits_any _ _ (by simp [ByteArray.size]; omega)).mono ?_; rintro e w2 ⟨rfl, hb2⟩) | (go_at_call 147; refine (atoi_any _ _ (by simp [ByteArray.size]; omega) hat.out _).mono ?_; rintro e w3 ⟨rfl, hb3⟩))
      refine (year_any _ (by omega) (by omega) _ (below_pow HT.out (below_two hb1 hb2 hb3 hb1.size))).mono ?_
      rintro e w4 ⟨rfl, hb4⟩
      go_wp2
      go_ret2
      refine ⟨ret_ib (by rw [hC.out.1, HN.out]) ?_, (below_two hb1 hb2 hb3 hb1.size).trans (hb4.mono (below_two hb1 hb2 hb3 hb1.size).size)⟩
      rw [hC.out.2, HN.out]
      simp [ByteArray.toList_eq]
    · rw [if_neg c4] at hN
      have HN := Lib.hid hN
      clear hN
      have c4' : ((s[0].toNat : Int) == 45) = false := by rw [beq_eq_false_iff_ne]; omega
      go_enter Tryz.func127, Tryz.ntmps127
      go_wp2_with fail
      refine (trimL_any _ [43, 45] (by decide) (by decide) _).mono ?_
      rw [show Lib.trimLeftS s.data.toList [43, 45] = b from HB.out]
      rintro e w1 ⟨rfl, hb1⟩
      go_wp2_with (first | (go_at_call 168; refine (digits_any _ _ (by simp [ByteArray.size]; omega)).mono ?_; rintro e w2 ⟨rfl, hb2⟩) | (go_at_call 147; refine (atoi_any _ _ (by simp [ByteArray.size]; omega) hat.out _).mono ?_; rintro e w3 ⟨rfl, hb3⟩))
      refine (year_any _ (by omega) (by omega) _ (below_pow HT.out (below_two hb1 hb2 hb3 hb1.size))).mono ?_
      rintro e w4 ⟨rfl, hb4⟩
      go_wp2
      go_ret2
      refine ⟨ret_ib (by rw [hC.out.1, HN.out]) ?_, (below_two hb1 hb2 hb3 hb1.size).trans (hb4.mono (below_two hb1 hb2 hb3 hb1.size).size)⟩
      rw [hC.out.2, HN.out]
      simp [ByteArray.toList_eq]
  · exact no (by simpa using hc)

/-! The fraction. -/
set_option maxHeartbeats 1000000 in
theorem readFraction_any (s : ByteArray) (w : World) (hs : s.size ≤ 140737488355328) (hT : TabPow w) :
    Calls Tryz.prog 129 #[.string s] w fun e w' => e = .returned (.tuple #[.int .i64 (rfV s.data.toList), .bool (rfB s.data.toList)]) ∧ Below w.heap.size w w' := by
  have HT := Lib.hid hT
  clear hT
  by_cases h0 : s.size = 0
  · have h0' : s.toList.isEmpty = true := by rw [ByteArray.toList_eq, List.isEmpty_iff]; exact List.eq_nil_of_length_eq_zero (Eq.trans (by simp) h0)
    have h00 : s.data.toList = [] := by rw [ByteArray.toList_eq] at h0'; exact List.isEmpty_iff.1 h0'
    have hC := Lib.hid (rf_nil h00)
    clear h0 h00
    go_enter Tryz.func129, Tryz.ntmps129
    go_wp2
    go_ret2
    exact ⟨ret_ib hC.out.1.symm hC.out.2.symm, Below.refl _ _⟩
  · have h00 : s.data.toList ≠ [] := fun h => h0 (by have := congrArg List.length h; simpa using this)
    have h0' : s.toList.isEmpty = false := by
      rw [ByteArray.toList_eq, ← Bool.not_eq_true, List.isEmpty_iff]; exact h00
    have hpl : (fbL s.data.toList).length ≤ s.size := Nat.le_trans (Lib.trimPrefix_le _ _) (Nat.le_of_eq (by simp))
    generalize hb : fbL s.data.toList = b at hpl
    have HB := Lib.hid hb
    have HB2 := Lib.hid (show Lib.trimPrefix s.data.toList [46] = b from hb)
    clear h0 hb
    by_cases c1 : Lib.hasPrefix s.data.toList [46] = true
    · by_cases c2 : digsL b = true
      · by_cases c3 : b.length ≤ 18
        · have hC := Lib.hid (rf_yes h00 (by simp [rfC, HB.out, c1, c2, c3]))
          have hd2 := fb_digs (c := 18 - b.length) c2
          have hat := Lib.hid (atoi_num hd2)
          have hl2 : (b ++ Lib.repeatL [48] (18 - b.length)).length = 18 := by rw [List.length_append, Lib.repeatL_length]; simp; omega
          have hn := num_bd hd2 (by omega)
          have hN := Lib.hid (show rfN s.data.toList = ((numL 0 (b ++ Lib.repeatL [48] (18 - b.length)) : Nat) : Int) by unfold rfN; rw [HB.out])
          generalize hr : Lib.repeatL [48] (18 - b.length) = r at *
          have HRr := Lib.hid hr
          clear hr h00 hd2
          go_enter Tryz.func129, Tryz.ntmps129
          go_wp2_with (first | (go_at_call 101; refine (cutP_any _ [46] _).mono ?_; rw [HB2.out]; rintro e w1 ⟨rfl, rfl⟩) | (go_at_call 168; refine (digits_any _ _ (by simp [ByteArray.size]; omega)).mono ?_; rintro e w2 ⟨rfl, hb2⟩))
          rw [show (18 : Int) - (b.length : Int) = ((18 - b.length : Nat) : Int) from by omega]
          refine (repeat_any [48] (18 - b.length) _ (by omega) (by simp; omega)).mono ?_
          rw [HRr.out]
          rintro e w3 ⟨rfl, hb3⟩
          have hrl : r.length ≤ 18 := by simp at hl2; omega
          have HL2 := Lib.hid hl2
          clear hl2
          go_wp2_with fail
          refine (atoi_any _ ((numL 0 (b ++ r) : Nat) : Int) (by have := HL2.out; simp [ByteArray.size]; simp at this; omega) (by simpa using hat.out) _).mono ?_
          rintro e w4 ⟨rfl, hb4⟩
          have hbw := below_two hb2 hb3 hb4 hb2.size
          go_wp2_with fail
          refine (fraction_any _ (by omega) (by omega) _ (below_pow HT.out hbw)).mono ?_
          rintro e w5 ⟨rfl, hb5⟩
          go_wp2
          go_ret2
          refine ⟨ret_ib (by rw [hC.out.1, hN.out]) ?_, hbw.trans (hb5.mono hbw.size)⟩
          rw [hC.out.2, hN.out]
          simp [ByteArray.toList_eq]
        · have hC := Lib.hid (rf_no h00 (by simp [rfC, HB.out, c3]))
          clear h00
          go_enter Tryz.func129, Tryz.ntmps129
          go_wp2_with (first | (go_at_call 101; refine (cutP_any _ [46] _).mono ?_; rw [HB2.out]; rintro e w1 ⟨rfl, rfl⟩) | (go_at_call 168; refine (digits_any _ _ (by simp [ByteArray.size]; omega)).mono ?_; rintro e w2 ⟨rfl, hb2⟩))
          go_ret2
          exact ⟨ret_ib hC.out.1.symm hC.out.2.symm, hb2⟩
      · have c3 : digsL b = false := by simpa using c2
        have hC := Lib.hid (rf_no h00 (by simp [rfC, HB.out, c3]))
        clear h00
        go_enter Tryz.func129, Tryz.ntmps129
        go_wp2_with (first | (go_at_call 101; refine (cutP_any _ [46] _).mono ?_; rw [HB2.out]; rintro e w1 ⟨rfl, rfl⟩) | (go_at_call 168; refine (digits_any _ _ (by simp [ByteArray.size]; omega)).mono ?_; rintro e w2 ⟨rfl, hb2⟩))
        go_ret2
        exact ⟨ret_ib hC.out.1.symm hC.out.2.symm, hb2⟩
    · have c3 : Lib.hasPrefix s.data.toList [46] = false := by simpa using c1
      have hC := Lib.hid (rf_no h00 (by simp [rfC, c3]))
      clear h00
      go_enter Tryz.func129, Tryz.ntmps129
      go_wp2_with (first | (go_at_call 101; refine (cutP_any _ [46] _).mono ?_; rw [HB2.out]; rintro e w1 ⟨rfl, rfl⟩))
      go_ret2
      exact ⟨ret_ib hC.out.1.symm hC.out.2.symm, Below.refl _ _⟩
end Go.Proofs.YtapbfkofoamaaaaGreatDoor
