/- The label of a text. -/
import Derived.Test.YtapbfkofoamaaaaGreatDoorIsoW4
namespace Go.Proofs.YtapbfkofoamaaaaGreatDoor
open Go.RowKit
set_option linter.unusedVariables false
set_option linter.unusedSimpArgs false

/-- While 'Parse' runs: its result's cells at zero, the date and the time in cells of their own. -/
structure PW (w W : World) (bd : Nat) (v : Sh) : Prop where
  r : W.heap[w.heap.size]? = some (.cells #[.int .i64 0, .int .i64 0, .int .i64 0] 23 (0, 0))
  d : W.heap[bd]? = some (.cells #[.int .i64 v.y, .int .i64 v.m, .int .i64 v.d] 29 (0, 0))
  t : W.heap[bd + 1]? = some (.cells #[.int .i64 v.h, .int .i64 v.mi, .int .i64 v.s, .int .i64 v.a] 67 (0, 0))
  b : Below w.heap.size w W
  lt : w.heap.size < bd ∧ bd + 1 < W.heap.size
theorem PW.next {w W W' : World} {bd : Nat} {v : Sh} (h : PW w W bd v) (hb : Below W.heap.size W W') : PW w W' bd v :=
  ⟨(hb.block _ (by have := h.lt; omega)).trans h.r, (hb.block _ (by have := h.lt; omega)).trans h.d, (hb.block _ h.lt.2).trans h.t, h.b.trans (hb.mono h.b.size), h.lt.1, Nat.lt_of_lt_of_le h.lt.2 hb.size⟩
theorem heap_new (w : World) (o : Obj) : (w.alloc o).heap[w.heap.size]? = some o := by
  show (w.heap.push o)[w.heap.size]? = _
  simp
theorem PW.start {w w1 : World} {v : Sh} (hb : Below (w.alloc (.cells #[.int .i64 0, .int .i64 0, .int .i64 0] 23)).heap.size (w.alloc (.cells #[.int .i64 0, .int .i64 0, .int .i64 0] 23)) w1) :
    PW w ((w1.alloc (.cells #[.int .i64 v.y, .int .i64 v.m, .int .i64 v.d] 29)).alloc (.cells #[.int .i64 v.h, .int .i64 v.mi, .int .i64 v.s, .int .i64 v.a] 67)) w1.heap.size v := by
  have hz : w.heap.size + 1 ≤ w1.heap.size := by have := hb.size; simpa using this
  refine ⟨?_, ?_, ?_, ?_, by omega, by simp⟩
  · rw [Below.heap_alloc _ _ _ (by simp; omega), Below.heap_alloc _ _ _ (by omega), hb.block _ (by simp), heap_new]
  · rw [Below.heap_alloc _ _ _ (by simp), heap_new]
  · have := heap_new (w1.alloc (.cells #[.int .i64 v.y, .int .i64 v.m, .int .i64 v.d] 29)) (.cells #[.int .i64 v.h, .int .i64 v.mi, .int .i64 v.s, .int .i64 v.a] 67)
    simpa using this
  · exact ((below_box hb).alloc (by omega) _).alloc (by simp; omega) _

set_option maxRecDepth 100000 in
set_option maxHeartbeats 4000000 in
theorem parse_any (s : ByteArray) (w : World) (hs : s.size ≤ 140737488355328) (hT : TabPow w) (hL : TabLen w) :
    Calls Tryz.prog 44 #[.string s] w fun e w' => e = .returned (.tuple #[.agg #[.int .i64 (parseD s.data.toList), .int .i64 (parseS s.data.toList), .int .i64 (parseA s.data.toList)], .int .i64 (parseE s.data.toList)]) ∧ Below w.heap.size w w' := by
  have HT := Lib.hid hT
  have HL := Lib.hid hL
  clear hT hL
  generalize hv : shV s.data.toList = v
  have HV := Lib.hid hv
  generalize hok : shB s.data.toList = ok
  have HO := Lib.hid hok
  have hways := parse_ways hv hok
  clear hv hok
  rcases hways with ⟨rfl, hp⟩ | ⟨rfl, c1, hp⟩ | ⟨rfl, c1, c2, hp⟩ | ⟨rfl, c1, c2, c3, hp⟩ | ⟨rfl, c1, c2, c3, hp⟩
  all_goals have HP := Lib.hid hp
  all_goals clear hp
  · go_enter Tryz.func44, Tryz.ntmps44
    go_wp2_with fail
    refine (shape_any s _ hs (below_pow HT.out (by go_grown))).mono ?_
    rintro e w1 ⟨rfl, hb1⟩
    rw [HV.out, HO.out]
    have P0 := PW.start (v := v) hb1
    have hz1 : w.heap.size < w1.heap.size := by have := hb1.size; simp at this; omega
    obtain ⟨hc1, hf1⟩ := bcell hb1
    have r0 : w1.cell? ⟨w.heap.size, 0, none⟩ = some (.int .i64 0) := below_cell hb1 (by simp) (by go_simp)
    have r1 : w1.cell? ⟨w.heap.size, 1, none⟩ = some (.int .i64 0) := below_cell hb1 (by simp) (by go_simp)
    have r2 : w1.cell? ⟨w.heap.size, 2, none⟩ = some (.int .i64 0) := below_cell hb1 (by simp) (by go_simp)
    go_wp2
    refine bodyPost_ret (v := .tuple #[.agg #[.int .i64 (0), .int .i64 (0), .int .i64 (0)], .int .i64 (4)]) ?_ rfl ?_
    · simp [results, Tryz.results44, go_sem, World.cell?_setCell_same', World.cell?_setCell_other, r0, r1, r2, hz1, Nat.ne_of_lt hz1, Nat.lt_succ_of_lt hz1, World.cell?_alloc_past, World.size_setCell, World.size_alloc]
    · obtain ⟨k1, k2, k3, k4⟩ := HP.out
      rw [k1, k2, k3, k4]
      have hB := below_box hb1
      have hB2 := hB.size
      exact ⟨rfl, by go_grown⟩
  · go_enter Tryz.func44, Tryz.ntmps44
    go_wp2_with fail
    refine (shape_any s _ hs (below_pow HT.out (by go_grown))).mono ?_
    rintro e w1 ⟨rfl, hb1⟩
    rw [HV.out, HO.out]
    have P0 := PW.start (v := v) hb1
    go_wp2_with fail
    refine (valid_date _ _ _ _ (below_tab HL.out P0.b)).mono ?_
    rintro e w2 ⟨rfl, hb2⟩
    have P2 := P0.next hb2
    have r0 : w2.cell? ⟨w.heap.size, 0, none⟩ = some (.int .i64 0) := blk_cell P2.r 0
    have r1 : w2.cell? ⟨w.heap.size, 1, none⟩ = some (.int .i64 0) := blk_cell P2.r 1
    have r2 : w2.cell? ⟨w.heap.size, 2, none⟩ = some (.int .i64 0) := blk_cell P2.r 2
    have fr := blk_free P2.r
    have d0 : w2.cell? ⟨w1.heap.size, 0, none⟩ = some (.int .i64 v.y) := blk_cell P2.d 0
    have d1 : w2.cell? ⟨w1.heap.size, 1, none⟩ = some (.int .i64 v.m) := blk_cell P2.d 1
    have d2 : w2.cell? ⟨w1.heap.size, 2, none⟩ = some (.int .i64 v.d) := blk_cell P2.d 2
    have t0 : w2.cell? ⟨w1.heap.size + 1, 0, none⟩ = some (.int .i64 v.h) := blk_cell P2.t 0
    have t1 : w2.cell? ⟨w1.heap.size + 1, 1, none⟩ = some (.int .i64 v.mi) := blk_cell P2.t 1
    have t2 : w2.cell? ⟨w1.heap.size + 1, 2, none⟩ = some (.int .i64 v.s) := blk_cell P2.t 2
    have t3 : w2.cell? ⟨w1.heap.size + 1, 3, none⟩ = some (.int .i64 v.a) := blk_cell P2.t 3
    go_wp2
    refine bodyPost_ret (v := .tuple #[.agg #[.int .i64 (0), .int .i64 (0), .int .i64 (0)], .int .i64 (5)]) ?_ rfl ?_
    · simp [results, Tryz.results44, go_sem, World.cell?_setCell_same', World.cell?_setCell_other, r0, r1, r2]
    · obtain ⟨k1, k2, k3, k4⟩ := HP.out
      rw [k1, k2, k3, k4]
      have hB := P2.b
      have hB2 := hB.size
      exact ⟨rfl, by go_grown⟩
  · go_enter Tryz.func44, Tryz.ntmps44
    go_wp2_with fail
    refine (shape_any s _ hs (below_pow HT.out (by go_grown))).mono ?_
    rintro e w1 ⟨rfl, hb1⟩
    rw [HV.out, HO.out]
    have P0 := PW.start (v := v) hb1
    go_wp2_with fail
    refine (valid_date _ _ _ _ (below_tab HL.out P0.b)).mono ?_
    rintro e w2 ⟨rfl, hb2⟩
    have P2 := P0.next hb2
    have r0 : w2.cell? ⟨w.heap.size, 0, none⟩ = some (.int .i64 0) := blk_cell P2.r 0
    have r1 : w2.cell? ⟨w.heap.size, 1, none⟩ = some (.int .i64 0) := blk_cell P2.r 1
    have r2 : w2.cell? ⟨w.heap.size, 2, none⟩ = some (.int .i64 0) := blk_cell P2.r 2
    have fr := blk_free P2.r
    have d0 : w2.cell? ⟨w1.heap.size, 0, none⟩ = some (.int .i64 v.y) := blk_cell P2.d 0
    have d1 : w2.cell? ⟨w1.heap.size, 1, none⟩ = some (.int .i64 v.m) := blk_cell P2.d 1
    have d2 : w2.cell? ⟨w1.heap.size, 2, none⟩ = some (.int .i64 v.d) := blk_cell P2.d 2
    have t0 : w2.cell? ⟨w1.heap.size + 1, 0, none⟩ = some (.int .i64 v.h) := blk_cell P2.t 0
    have t1 : w2.cell? ⟨w1.heap.size + 1, 1, none⟩ = some (.int .i64 v.mi) := blk_cell P2.t 1
    have t2 : w2.cell? ⟨w1.heap.size + 1, 2, none⟩ = some (.int .i64 v.s) := blk_cell P2.t 2
    have t3 : w2.cell? ⟨w1.heap.size + 1, 3, none⟩ = some (.int .i64 v.a) := blk_cell P2.t 3
    go_wp2_with fail
    refine (valid_time _ _ _ _ _).mono ?_
    rintro e w3 ⟨rfl, hb3⟩
    have P3 := P2.next hb3
    clear r0 r1 r2 fr d0 d1 d2 t0 t1 t2 t3
    have r0 : w3.cell? ⟨w.heap.size, 0, none⟩ = some (.int .i64 0) := blk_cell P3.r 0
    have r1 : w3.cell? ⟨w.heap.size, 1, none⟩ = some (.int .i64 0) := blk_cell P3.r 1
    have r2 : w3.cell? ⟨w.heap.size, 2, none⟩ = some (.int .i64 0) := blk_cell P3.r 2
    have fr := blk_free P3.r
    have d0 : w3.cell? ⟨w1.heap.size, 0, none⟩ = some (.int .i64 v.y) := blk_cell P3.d 0
    have d1 : w3.cell? ⟨w1.heap.size, 1, none⟩ = some (.int .i64 v.m) := blk_cell P3.d 1
    have d2 : w3.cell? ⟨w1.heap.size, 2, none⟩ = some (.int .i64 v.d) := blk_cell P3.d 2
    have t0 : w3.cell? ⟨w1.heap.size + 1, 0, none⟩ = some (.int .i64 v.h) := blk_cell P3.t 0
    have t1 : w3.cell? ⟨w1.heap.size + 1, 1, none⟩ = some (.int .i64 v.mi) := blk_cell P3.t 1
    have t2 : w3.cell? ⟨w1.heap.size + 1, 2, none⟩ = some (.int .i64 v.s) := blk_cell P3.t 2
    have t3 : w3.cell? ⟨w1.heap.size + 1, 3, none⟩ = some (.int .i64 v.a) := blk_cell P3.t 3
    go_wp2
    refine bodyPost_ret (v := .tuple #[.agg #[.int .i64 (0), .int .i64 (0), .int .i64 (0)], .int .i64 (5)]) ?_ rfl ?_
    · simp [results, Tryz.results44, go_sem, World.cell?_setCell_same', World.cell?_setCell_other, r0, r1, r2]
    · obtain ⟨k1, k2, k3, k4⟩ := HP.out
      rw [k1, k2, k3, k4]
      have hB := P3.b
      have hB2 := hB.size
      exact ⟨rfl, by go_grown⟩
  · have c4 : (dE v.y v.m v.d == 0) = false := by rw [beq_eq_false_iff_ne]; exact c3
    have c5 : (dE v.y v.m v.d != 0) = true := by rw [bne_iff_ne]; exact c3
    go_enter Tryz.func44, Tryz.ntmps44
    go_wp2_with fail
    refine (shape_any s _ hs (below_pow HT.out (by go_grown))).mono ?_
    rintro e w1 ⟨rfl, hb1⟩
    rw [HV.out, HO.out]
    have P0 := PW.start (v := v) hb1
    go_wp2_with fail
    refine (valid_date _ _ _ _ (below_tab HL.out P0.b)).mono ?_
    rintro e w2 ⟨rfl, hb2⟩
    have P2 := P0.next hb2
    have r0 : w2.cell? ⟨w.heap.size, 0, none⟩ = some (.int .i64 0) := blk_cell P2.r 0
    have r1 : w2.cell? ⟨w.heap.size, 1, none⟩ = some (.int .i64 0) := blk_cell P2.r 1
    have r2 : w2.cell? ⟨w.heap.size, 2, none⟩ = some (.int .i64 0) := blk_cell P2.r 2
    have fr := blk_free P2.r
    have d0 : w2.cell? ⟨w1.heap.size, 0, none⟩ = some (.int .i64 v.y) := blk_cell P2.d 0
    have d1 : w2.cell? ⟨w1.heap.size, 1, none⟩ = some (.int .i64 v.m) := blk_cell P2.d 1
    have d2 : w2.cell? ⟨w1.heap.size, 2, none⟩ = some (.int .i64 v.d) := blk_cell P2.d 2
    have t0 : w2.cell? ⟨w1.heap.size + 1, 0, none⟩ = some (.int .i64 v.h) := blk_cell P2.t 0
    have t1 : w2.cell? ⟨w1.heap.size + 1, 1, none⟩ = some (.int .i64 v.mi) := blk_cell P2.t 1
    have t2 : w2.cell? ⟨w1.heap.size + 1, 2, none⟩ = some (.int .i64 v.s) := blk_cell P2.t 2
    have t3 : w2.cell? ⟨w1.heap.size + 1, 3, none⟩ = some (.int .i64 v.a) := blk_cell P2.t 3
    go_wp2_with fail
    refine (valid_time _ _ _ _ _).mono ?_
    rintro e w3 ⟨rfl, hb3⟩
    have P3 := P2.next hb3
    clear r0 r1 r2 fr d0 d1 d2 t0 t1 t2 t3
    have r0 : w3.cell? ⟨w.heap.size, 0, none⟩ = some (.int .i64 0) := blk_cell P3.r 0
    have r1 : w3.cell? ⟨w.heap.size, 1, none⟩ = some (.int .i64 0) := blk_cell P3.r 1
    have r2 : w3.cell? ⟨w.heap.size, 2, none⟩ = some (.int .i64 0) := blk_cell P3.r 2
    have fr := blk_free P3.r
    have d0 : w3.cell? ⟨w1.heap.size, 0, none⟩ = some (.int .i64 v.y) := blk_cell P3.d 0
    have d1 : w3.cell? ⟨w1.heap.size, 1, none⟩ = some (.int .i64 v.m) := blk_cell P3.d 1
    have d2 : w3.cell? ⟨w1.heap.size, 2, none⟩ = some (.int .i64 v.d) := blk_cell P3.d 2
    have t0 : w3.cell? ⟨w1.heap.size + 1, 0, none⟩ = some (.int .i64 v.h) := blk_cell P3.t 0
    have t1 : w3.cell? ⟨w1.heap.size + 1, 1, none⟩ = some (.int .i64 v.mi) := blk_cell P3.t 1
    have t2 : w3.cell? ⟨w1.heap.size + 1, 2, none⟩ = some (.int .i64 v.s) := blk_cell P3.t 2
    have t3 : w3.cell? ⟨w1.heap.size + 1, 3, none⟩ = some (.int .i64 v.a) := blk_cell P3.t 3
    go_wp2_with fail
    refine (day_any _ _ _ _ (below_tab HL.out P3.b)).mono ?_
    rintro e w4 ⟨rfl, hb4⟩
    have P4 := P3.next hb4
    clear r0 r1 r2 fr d0 d1 d2 t0 t1 t2 t3
    have r0 : w4.cell? ⟨w.heap.size, 0, none⟩ = some (.int .i64 0) := blk_cell P4.r 0
    have r1 : w4.cell? ⟨w.heap.size, 1, none⟩ = some (.int .i64 0) := blk_cell P4.r 1
    have r2 : w4.cell? ⟨w.heap.size, 2, none⟩ = some (.int .i64 0) := blk_cell P4.r 2
    have fr := blk_free P4.r
    have d0 : w4.cell? ⟨w1.heap.size, 0, none⟩ = some (.int .i64 v.y) := blk_cell P4.d 0
    have d1 : w4.cell? ⟨w1.heap.size, 1, none⟩ = some (.int .i64 v.m) := blk_cell P4.d 1
    have d2 : w4.cell? ⟨w1.heap.size, 2, none⟩ = some (.int .i64 v.d) := blk_cell P4.d 2
    have t0 : w4.cell? ⟨w1.heap.size + 1, 0, none⟩ = some (.int .i64 v.h) := blk_cell P4.t 0
    have t1 : w4.cell? ⟨w1.heap.size + 1, 1, none⟩ = some (.int .i64 v.mi) := blk_cell P4.t 1
    have t2 : w4.cell? ⟨w1.heap.size + 1, 2, none⟩ = some (.int .i64 v.s) := blk_cell P4.t 2
    have t3 : w4.cell? ⟨w1.heap.size + 1, 3, none⟩ = some (.int .i64 v.a) := blk_cell P4.t 3
    go_wp2
    refine bodyPost_ret (v := .tuple #[.agg #[.int .i64 (0), .int .i64 (0), .int .i64 (0)], .int .i64 (dE v.y v.m v.d)]) ?_ rfl ?_
    · simp [results, Tryz.results44, go_sem, World.cell?_setCell_same', World.cell?_setCell_other, r0, r1, r2]
    · obtain ⟨k1, k2, k3, k4⟩ := HP.out
      rw [k1, k2, k3, k4]
      have hB := P4.b
      have hB2 := hB.size
      exact ⟨rfl, by go_grown⟩
  · go_enter Tryz.func44, Tryz.ntmps44
    go_wp2_with fail
    refine (shape_any s _ hs (below_pow HT.out (by go_grown))).mono ?_
    rintro e w1 ⟨rfl, hb1⟩
    rw [HV.out, HO.out]
    have P0 := PW.start (v := v) hb1
    go_wp2_with fail
    refine (valid_date _ _ _ _ (below_tab HL.out P0.b)).mono ?_
    rintro e w2 ⟨rfl, hb2⟩
    have P2 := P0.next hb2
    have r0 : w2.cell? ⟨w.heap.size, 0, none⟩ = some (.int .i64 0) := blk_cell P2.r 0
    have r1 : w2.cell? ⟨w.heap.size, 1, none⟩ = some (.int .i64 0) := blk_cell P2.r 1
    have r2 : w2.cell? ⟨w.heap.size, 2, none⟩ = some (.int .i64 0) := blk_cell P2.r 2
    have fr := blk_free P2.r
    have d0 : w2.cell? ⟨w1.heap.size, 0, none⟩ = some (.int .i64 v.y) := blk_cell P2.d 0
    have d1 : w2.cell? ⟨w1.heap.size, 1, none⟩ = some (.int .i64 v.m) := blk_cell P2.d 1
    have d2 : w2.cell? ⟨w1.heap.size, 2, none⟩ = some (.int .i64 v.d) := blk_cell P2.d 2
    have t0 : w2.cell? ⟨w1.heap.size + 1, 0, none⟩ = some (.int .i64 v.h) := blk_cell P2.t 0
    have t1 : w2.cell? ⟨w1.heap.size + 1, 1, none⟩ = some (.int .i64 v.mi) := blk_cell P2.t 1
    have t2 : w2.cell? ⟨w1.heap.size + 1, 2, none⟩ = some (.int .i64 v.s) := blk_cell P2.t 2
    have t3 : w2.cell? ⟨w1.heap.size + 1, 3, none⟩ = some (.int .i64 v.a) := blk_cell P2.t 3
    go_wp2_with fail
    refine (valid_time _ _ _ _ _).mono ?_
    rintro e w3 ⟨rfl, hb3⟩
    have P3 := P2.next hb3
    clear r0 r1 r2 fr d0 d1 d2 t0 t1 t2 t3
    have r0 : w3.cell? ⟨w.heap.size, 0, none⟩ = some (.int .i64 0) := blk_cell P3.r 0
    have r1 : w3.cell? ⟨w.heap.size, 1, none⟩ = some (.int .i64 0) := blk_cell P3.r 1
    have r2 : w3.cell? ⟨w.heap.size, 2, none⟩ = some (.int .i64 0) := blk_cell P3.r 2
    have fr := blk_free P3.r
    have d0 : w3.cell? ⟨w1.heap.size, 0, none⟩ = some (.int .i64 v.y) := blk_cell P3.d 0
    have d1 : w3.cell? ⟨w1.heap.size, 1, none⟩ = some (.int .i64 v.m) := blk_cell P3.d 1
    have d2 : w3.cell? ⟨w1.heap.size, 2, none⟩ = some (.int .i64 v.d) := blk_cell P3.d 2
    have t0 : w3.cell? ⟨w1.heap.size + 1, 0, none⟩ = some (.int .i64 v.h) := blk_cell P3.t 0
    have t1 : w3.cell? ⟨w1.heap.size + 1, 1, none⟩ = some (.int .i64 v.mi) := blk_cell P3.t 1
    have t2 : w3.cell? ⟨w1.heap.size + 1, 2, none⟩ = some (.int .i64 v.s) := blk_cell P3.t 2
    have t3 : w3.cell? ⟨w1.heap.size + 1, 3, none⟩ = some (.int .i64 v.a) := blk_cell P3.t 3
    go_wp2_with fail
    refine (day_any _ _ _ _ (below_tab HL.out P3.b)).mono ?_
    rintro e w4 ⟨rfl, hb4⟩
    have P4 := P3.next hb4
    clear r0 r1 r2 fr d0 d1 d2 t0 t1 t2 t3
    have r0 : w4.cell? ⟨w.heap.size, 0, none⟩ = some (.int .i64 0) := blk_cell P4.r 0
    have r1 : w4.cell? ⟨w.heap.size, 1, none⟩ = some (.int .i64 0) := blk_cell P4.r 1
    have r2 : w4.cell? ⟨w.heap.size, 2, none⟩ = some (.int .i64 0) := blk_cell P4.r 2
    have fr := blk_free P4.r
    have d0 : w4.cell? ⟨w1.heap.size, 0, none⟩ = some (.int .i64 v.y) := blk_cell P4.d 0
    have d1 : w4.cell? ⟨w1.heap.size, 1, none⟩ = some (.int .i64 v.m) := blk_cell P4.d 1
    have d2 : w4.cell? ⟨w1.heap.size, 2, none⟩ = some (.int .i64 v.d) := blk_cell P4.d 2
    have t0 : w4.cell? ⟨w1.heap.size + 1, 0, none⟩ = some (.int .i64 v.h) := blk_cell P4.t 0
    have t1 : w4.cell? ⟨w1.heap.size + 1, 1, none⟩ = some (.int .i64 v.mi) := blk_cell P4.t 1
    have t2 : w4.cell? ⟨w1.heap.size + 1, 2, none⟩ = some (.int .i64 v.s) := blk_cell P4.t 2
    have t3 : w4.cell? ⟨w1.heap.size + 1, 3, none⟩ = some (.int .i64 v.a) := blk_cell P4.t 3
    go_wp2_with fail
    refine (sec_any _ _ _ _ _).mono ?_
    rintro e w5 ⟨rfl, hb5⟩
    have P5 := P4.next hb5
    clear r0 r1 r2 fr d0 d1 d2 t0 t1 t2 t3
    have r0 : w5.cell? ⟨w.heap.size, 0, none⟩ = some (.int .i64 0) := blk_cell P5.r 0
    have r1 : w5.cell? ⟨w.heap.size, 1, none⟩ = some (.int .i64 0) := blk_cell P5.r 1
    have r2 : w5.cell? ⟨w.heap.size, 2, none⟩ = some (.int .i64 0) := blk_cell P5.r 2
    have fr := blk_free P5.r
    have d0 : w5.cell? ⟨w1.heap.size, 0, none⟩ = some (.int .i64 v.y) := blk_cell P5.d 0
    have d1 : w5.cell? ⟨w1.heap.size, 1, none⟩ = some (.int .i64 v.m) := blk_cell P5.d 1
    have d2 : w5.cell? ⟨w1.heap.size, 2, none⟩ = some (.int .i64 v.d) := blk_cell P5.d 2
    have t0 : w5.cell? ⟨w1.heap.size + 1, 0, none⟩ = some (.int .i64 v.h) := blk_cell P5.t 0
    have t1 : w5.cell? ⟨w1.heap.size + 1, 1, none⟩ = some (.int .i64 v.mi) := blk_cell P5.t 1
    have t2 : w5.cell? ⟨w1.heap.size + 1, 2, none⟩ = some (.int .i64 v.s) := blk_cell P5.t 2
    have t3 : w5.cell? ⟨w1.heap.size + 1, 3, none⟩ = some (.int .i64 v.a) := blk_cell P5.t 3
    go_wp2
    refine bodyPost_ret (v := .tuple #[.agg #[.int .i64 (dN v.y v.m v.d), .int .i64 (hSec v.h v.mi v.s v.a), .int .i64 (hAtto v.h v.mi v.s v.a)], .int .i64 (0)]) ?_ rfl ?_
    · simp [results, Tryz.results44, go_sem, World.cell?_setCell_same', World.cell?_setCell_other, r0, r1, r2]
    · obtain ⟨k1, k2, k3, k4⟩ := HP.out
      rw [k1, k2, k3, k4]
      have hB := P5.b
      have hB2 := hB.size
      exact ⟨rfl, by go_grown⟩
end Go.Proofs.YtapbfkofoamaaaaGreatDoor
