/- What the calls of iso that read a text come to. -/
import Derived.Test.YtapbfkofoamaaaaGreatDoorIsoW
namespace Go.Proofs.YtapbfkofoamaaaaGreatDoor
open Go.RowKit
set_option linter.unusedVariables false
set_option linter.unusedSimpArgs false

set_option maxHeartbeats 1000000 in
theorem digits_any (s : ByteArray) (w : World) (hs : s.size ≤ 140737488355328) :
    Calls Tryz.prog 168 #[.string s] w fun e w' => e = .returned (.bool (digsL s.data.toList)) ∧ Below w.heap.size w w' := by
  go_enter Tryz.func168, Tryz.ntmps168
  go_wp2
  go_loopw [4] (fun _ w' => ∃ pos : Nat, w' = w.iter s pos ∧ pos ≤ s.size ∧ Hid ((s.data.toList.take pos).all isDig = true)) (fun _ w' => s.size - w'.iterPos w.heap.size)
  case atStart => exact ⟨0, rfl, by omega, Lib.hid (by simp)⟩
  case round =>
    obtain ⟨pos, rfl, hle, H⟩ := hrel
    by_cases hp : pos < s.size
    · have hnx : ∀ ty, (Instr.next (.pointer (some ⟨w.heap.size, 0, none⟩)) true ty).run Tryz.prog (w.iter s pos) = _ := fun ty => run_next_any w s pos ty hp
      by_cases ha : (s[pos]'hp).toNat < 128
      · have hd := decode_ascii s pos hp ha
        rw [hd] at hnx
        generalize hb : (s[pos]'hp).toNat = b at hnx ha
        have HB := Lib.hid hb
        clear hb hd
        by_cases h1 : b < 48
        · have HF := Lib.hid (not_digs s pos hp (by unfold isDig; rw [HB.out]; simp; omega))
          go_wp2
          go_ret
          exact ⟨ret_bool HF.out.symm, (Below.refl _ _).alloc (Nat.le_refl _) _⟩
        · by_cases h2 : 57 < b
          · have HF := Lib.hid (not_digs s pos hp (by unfold isDig; rw [HB.out]; simp; omega))
            go_wp2
            go_ret
            exact ⟨ret_bool HF.out.symm, (Below.refl _ _).alloc (Nat.le_refl _) _⟩
          · have HF := Lib.hid (take_step s pos hp H.out (by unfold isDig; rw [HB.out]; simp; omega))
            go_wp2
            go_roundw
            case rel => exact ⟨pos + 1, rfl, by omega, HF⟩
            case measure => simp; omega
      · have hd := decode_high s pos hp (by omega)
        have HF := Lib.hid (not_digs s pos hp (by unfold isDig; simp; omega))
        generalize hr : Utf8.decode s pos = r at hnx hd
        obtain ⟨r1, r2⟩ := r
        obtain ⟨d1, d2⟩ := hd
        have d3 : 57 < r1 := by simp at d1; omega
        have HR := Lib.hid hr
        clear hr d1 d2
        go_wp2
        go_ret
        exact ⟨ret_bool HF.out.symm, (Below.refl _ _).alloc (Nat.le_refl _) _⟩
    · have hnx : ∀ ty, (Instr.next (.pointer (some ⟨w.heap.size, 0, none⟩)) true ty).run Tryz.prog (w.iter s pos) = _ := fun ty => run_next_end w s pos ty hp
      have HF := Lib.hid (all_digs s pos hp H.out)
      go_wp2
      go_ret
      exact ⟨ret_bool (by rw [HF.out, ByteArray.toList_eq]), (Below.refl _ _).alloc (Nat.le_refl _) _⟩

theorem infoInt : (Tryz.prog.info? 3).map (fun i => (i.zero, i.size, i.bytes)) = some (some (.int .i64 0), 1, 8) := by kernel_rfl

/-- A new row of ints that a slice tells. -/
def IntRow (w : World) (B : Nat) (v : Value) (zs : List Int) : Prop := w.ownsRow B 3 1 v zs.length (zs.map (Value.int .i64))
/-- What 'two' comes to. -/
def TwoPost (s : ByteArray) (c : UInt8) (w : World) (e : Ending) (w' : World) : Prop :=
  (∃ v zs, twoL c s.data.toList = some zs ∧ e = .returned (.tuple #[v, .bool true]) ∧ IntRow w' w.heap.size v zs ∧ Below w.heap.size w w') ∨
  (twoL c s.data.toList = none ∧ e = .returned (.tuple #[.slice none 0 0, .bool false]) ∧ Below w.heap.size w w')

theorem ext_two (s : ByteArray) (n : Nat) (h : n + 2 ≤ s.size) : (s.extract n (n + 2)).data.toList = (s.data.toList.drop n).take 2 := by
  rw [Lib.extract_data]
  simp

set_option maxRecDepth 100000 in
set_option maxHeartbeats 2000000 in
theorem two_any (s : ByteArray) (m : Nat) (c : UInt8) (w : World) (hm : m ≤ 10) (hs : s.size = 3 * m + 2) :
    Calls Tryz.prog 128 #[.string s, .int .u8 c.toNat] w (TwoPost s c w) := by
  obtain ⟨i0, hi, hz0, hz1, hz2⟩ := info_parts infoInt
  have HS := Lib.hid hs
  have s1 : s.size ≤ 32 := by omega
  have s2 : 2 ≤ s.size := by omega
  clear hs
  go_enter Tryz.func128, Tryz.ntmps128
  go_wp2
  go_loopw [6, 7] (fun v i wr => ∃ (k : Nat) (zs : List Int), k ≤ m + 1 ∧ i = .int .i64 (3 * (k : Int)) ∧ wr.ownsRow w.heap.size 3 1 v zs.length (zs.map (Value.int .i64)) ∧ zs.length = k ∧ Below w.heap.size w wr ∧
      Hid (twoL c s.data.toList = (if k ≤ m then (twoL c (s.data.toList.drop (3 * k))).map (zs ++ ·) else some zs))) (fun _ i _ => s.size - (intOf i).toNat)
  case atStart => exact ⟨0, [], by omega, rfl, World.ownsRow_nil _ _ _ _, rfl, Below.refl _ _, Lib.hid (by simp)⟩
  case round =>
    obtain ⟨k, zs, hk, rfl, hown, hzl, hB, HR⟩ := hrel
    by_cases hlt : 3 * k < s.size
    · have hkm : k ≤ m := by have := HS.out; omega
      have hin : 3 * k + 2 ≤ s.size := by have := HS.out; omega
      have LEN := Lib.hid (show s.data.toList.length = 3 * m + 2 by have := HS.out; simpa using this)
      have hex := Lib.hid (ext_two s (3 * k) hin)
      generalize hx : s.extract (3 * k) (3 * k + 2) = x at hex
      have hxs : x.size = 2 := by
        have := congrArg List.length hex.out
        simp at this
        have e2 : s.data.toList.length = s.size := by simp
        simp at e2
        omega
      have hx2 : x.size ≤ 140737488355328 := by omega
      have HXS := Lib.hid hxs
      clear hxs
      by_cases hd : digsL x.data.toList = true
      · have hat := Lib.hid (atoi_num hd)
        by_cases hkm2 : k < m
        · have h5 : 3 * k + 5 ≤ s.size := by have := HS.out; omega
          have q3 : ((3 * (k : Int) + 3) == (s.size : Int)) = false := by rw [beq_eq_false_iff_ne]; omega
          have hg := Lib.hid (getD_at s (3 * k + 2) (by omega))
          by_cases hb : s[3 * k + 2]'(by omega) = c
          · have hcd := Lib.hid (hg.out.trans hb)
            go_wp2_with (first | (go_at_call 168; refine (digits_any _ _ hx2).mono ?_; rintro e w1 ⟨rfl, hb1⟩) | (go_at_call 147; refine (atoi_any _ _ (by have := HXS.out; omega) hat.out _).mono ?_; rintro e w2 ⟨rfl, hb2⟩) | (at_builtin; refine wpList_append_own _ rfl _ _ 102 rfl w.heap.size 3 i0 (.int .i64 0) 1 8 Tryz.underlying102 hi hz0 hz1 hz2 rfl (by decide) _ zs.length (zs.map (Value.int .i64)) rfl ?cown ⟨w2.heap.size, 0, none⟩ 1 1 [.int .i64 (numL 0 x.data.toList)] rfl rfl ?c1 ?c2 ?c3 ?c4 ?c5 ?_))
            case cown => exact (own_below (own_below hown hb1) hb2).alloc _
            case c1 => exact cell_one_new _ _ _
            case c2 => simp [Value.oneCell']
            case c3 => unfold maxLen; omega
            case c4 => omega
            case c5 => have := hB.size; have := hb1.size; have := hb2.size; simp; omega
            intro v3 w3 hown3 hgrow3 _
            have hbw := (below_two hB hb1 hb2 hB.size).alloc (by have := hB.size; have := hb1.size; have := hb2.size; omega) (.cells #[Value.int .i64 ((numL 0 x.data.toList : Nat) : Int)] 3)
            have hown2 := (own_below (own_below hown hb1) hb2).alloc (.cells #[Value.int .i64 ((numL 0 x.data.toList : Nat) : Int)] 3)
            go_wp2
            have hlen := LEN.out
            exact ⟨⟨k + 1, zs ++ [((numL 0 x.data.toList : Nat) : Int)], by omega, win_int (by omega) _, by simpa [hzl] using hown3, by simp [hzl], below_own hbw hown2 hgrow3 (Nat.le_refl _) hbw.size, Lib.hid (by rw [hex.out]; exact two_go hlen hkm2 (hex.out ▸ hd) hcd.out HR.out)⟩, by simp [intOf]; omega⟩
          · have hbad := Lib.hid (two_sep LEN.out hkm2 (by rw [hg.out]; exact hb) HR.out)
            have hb' : (((s[3 * k + 2]'(by omega)).toNat : Int) == (c.toNat : Int)) = false := by rw [beq_eq_false_iff_ne]; exact fun h => hb (UInt8.toNat_inj.1 (by omega))
            have hb2' : (((s[3 * k + 2]'(by omega)).toNat : Int) != (c.toNat : Int)) = true := by rw [bne_iff_ne]; exact fun h => hb (UInt8.toNat_inj.1 (by omega))
            have hb3 : ¬ ((s[3 * k + 2]'(by omega)).toNat : Int) = (c.toNat : Int) := fun h => hb (UInt8.toNat_inj.1 (by omega))
            go_wp2_with (first | (go_at_call 168; refine (digits_any _ _ hx2).mono ?_; rintro e w1 ⟨rfl, hb1⟩))
            go_ret2
            exact Or.inr ⟨hbad.out, rfl, hB.trans (hb1.mono hB.size)⟩
        · have hkm3 : s.size ≤ 3 * k + 2 := by have := HS.out; omega
          go_wp2_with (first | (go_at_call 168; refine (digits_any _ _ hx2).mono ?_; rintro e w1 ⟨rfl, hb1⟩) | (go_at_call 147; refine (atoi_any _ _ (by have := HXS.out; omega) hat.out _).mono ?_; rintro e w2 ⟨rfl, hb2⟩) | (at_builtin; refine wpList_append_own _ rfl _ _ 102 rfl w.heap.size 3 i0 (.int .i64 0) 1 8 Tryz.underlying102 hi hz0 hz1 hz2 rfl (by decide) _ zs.length (zs.map (Value.int .i64)) rfl ?cown ⟨w2.heap.size, 0, none⟩ 1 1 [.int .i64 (numL 0 x.data.toList)] rfl rfl ?c1 ?c2 ?c3 ?c4 ?c5 ?_))
          case cown => exact (own_below (own_below hown hb1) hb2).alloc _
          case c1 => exact cell_one_new _ _ _
          case c2 => simp [Value.oneCell']
          case c3 => unfold maxLen; omega
          case c4 => omega
          case c5 => have := hB.size; have := hb1.size; have := hb2.size; simp; omega
          intro v3 w3 hown3 hgrow3 _
          have hbw := (below_two hB hb1 hb2 hB.size).alloc (by have := hB.size; have := hb1.size; have := hb2.size; omega) (.cells #[Value.int .i64 ((numL 0 x.data.toList : Nat) : Int)] 3)
          have hown2 := (own_below (own_below hown hb1) hb2).alloc (.cells #[Value.int .i64 ((numL 0 x.data.toList : Nat) : Int)] 3)
          go_wp2
          have hlen := LEN.out
          exact ⟨⟨k + 1, zs ++ [((numL 0 x.data.toList : Nat) : Int)], by omega, win_int (by omega) _, by simpa [hzl] using hown3, by simp [hzl], below_own hbw hown2 hgrow3 (Nat.le_refl _) hbw.size, Lib.hid (by rw [hex.out]; exact two_fin hlen (by omega) (hex.out ▸ hd) HR.out)⟩, by simp [intOf]; omega⟩
      · have hd' : digsL x.data.toList = false := by simpa using hd
        have hbad := Lib.hid (two_bad LEN.out hkm (by rw [← hex.out]; exact hd') HR.out)
        go_wp2_with (first | (go_at_call 168; refine (digits_any _ _ hx2).mono ?_; rintro e w1 ⟨rfl, hb1⟩))
        go_ret2
        exact Or.inr ⟨hbad.out, rfl, hB.trans (hb1.mono hB.size)⟩
    · have hlen := Lib.hid (show k = m + 1 by have := HS.out; omega)
      go_wp2
      go_ret2
      have h2 := HR.out
      rw [if_neg (by have := hlen.out; omega)] at h2
      exact Or.inl ⟨_, zs, h2, rfl, hown, hB⟩
end Go.Proofs.YtapbfkofoamaaaaGreatDoor
