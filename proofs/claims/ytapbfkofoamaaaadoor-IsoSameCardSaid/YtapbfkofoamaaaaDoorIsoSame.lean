/- IsoSame: a text that is read is just the text of its label: for every string. -/
import Derived.Test.YtapbfkofoamaaaaDoorIsoA
import Derived.Test.YtapbfkofoamaaaaDoorLaid
import Derived.Deep.Slices
namespace Go.Proofs.YtapbfkofoamaaaaDoor
open Go.ChangeShapes Go.WideShapes Go.ChangeAt Go.RowKit
open Go.ChangeMaps (open_string shut_string)
set_option linter.unusedVariables false
set_option linter.unusedSimpArgs false

set_option maxRecDepth 100000 in
set_option maxHeartbeats 4000000 in
theorem isoSame_walk (s : ByteArray) (w : World) (hs : s.size ≤ 140737488355328) (hT : TabPow w) (hL : TabLen w) :
    Calls Tryd.prog 3 #[.string s] w fun e w' => e = .returned (.bool true) ∧ Below w.heap.size w w' := by
  have HT := Lib.hid hT
  have HL := Lib.hid hL
  clear hT hL
  by_cases h : parseE s.data.toList = 0
  · have HS := Lib.hid (iso_same h)
    have HE := Lib.hid h
    clear h
    go_enter Tryd.func3, Tryd.ntmps3
    go_wp2_with fail
    refine (parse_any s _ hs HT.out HL.out).mono ?_
    rintro e w1 ⟨rfl, hb1⟩
    rw [HE.out]
    have hz1 := hb1.size
    go_wp2_with fail
    have hbw1 := hb1.alloc hz1 (.cells #[.int .i64 (parseD s.data.toList), .int .i64 (parseS s.data.toList), .int .i64 (parseA s.data.toList)] 23)
    refine (print_any _ _ _ _ (below_pow HT.out hbw1)).mono ?_
    rw [HS.out.1, HS.out.2]
    rintro e w2 ⟨rfl, hb2⟩
    have hbw2 := hbw1.trans (hb2.mono hbw1.size)
    go_wp2_with fail
    refine (answers25_any _ (below_pow HT.out hbw2) (below_tab HL.out hbw2)).mono ?_
    rintro e w3 ⟨rfl, hb3⟩
    have hbw3 := hbw2.trans (hb3.mono hbw2.size)
    go_wp2
    go_ret
    exact ⟨rfl, by have := hbw3.size; go_grown⟩
  · have HS := Lib.hid (parse_no h)
    have h2 : (parseE s.data.toList == 0) = false := by rw [beq_eq_false_iff_ne]; exact h
    have h3 : (parseE s.data.toList != 0) = true := by rw [bne_iff_ne]; exact h
    go_enter Tryd.func3, Tryd.ntmps3
    go_wp2_with fail
    refine (parse_any s _ hs HT.out HL.out).mono ?_
    rintro e w1 ⟨rfl, hb1⟩
    rw [HS.out.1, HS.out.2.1, HS.out.2.2]
    have hz1 := hb1.size
    go_wp2_with fail
    have hbw1 := hb1.alloc hz1 (.cells #[.int .i64 0, .int .i64 0, .int .i64 0] 23)
    refine (answers25_any _ (below_pow HT.out hbw1) (below_tab HL.out hbw1)).mono ?_
    rintro e w3 ⟨rfl, hb3⟩
    have hbw3 := hbw1.trans (hb3.mono hbw1.size)
    have d0 : w3.cell? ⟨w1.heap.size, 0, none⟩ = some (.int .i64 0) := below_cell hb3 (by simp) (by go_simp)
    have d1 : w3.cell? ⟨w1.heap.size, 1, none⟩ = some (.int .i64 0) := below_cell hb3 (by simp) (by go_simp)
    have d2 : w3.cell? ⟨w1.heap.size, 2, none⟩ = some (.int .i64 0) := below_cell hb3 (by simp) (by go_simp)
    go_wp2
    go_ret
    exact ⟨rfl, by have := hbw3.size; go_grown⟩

/-- What the row's list gives. -/
theorem isoSame_tabs {W : World} (h : laidMetH Tryd.prog Rows.isoSameRow.laid W) : TabLen W ∧ TabPow W := by
  have h0 : laidMet Tryd.prog Rows.isoSameRow.laid W := h
  refine ⟨Lib.tabIs_of_head (g := 0) (t := 75) (e := 3) (n := 12) (by kernel_rfl) (by kernel_rfl) Tryd.underlying75 Tryd.underlying3 (by kernel_rfl) (by kernel_rfl) h0, ?_⟩
  exact Lib.tabIs_of_head (g := 4) (t := 124) (e := 94) (n := 20) (by kernel_rfl) (by kernel_rfl) Tryd.underlying124 Tryd.underlying94 (by kernel_rfl) (by kernel_rfl) h0.tail.tail.tail

theorem isoSame_laid (os : Os) (args : Array Value) : laidMet Tryd.prog Rows.isoSameRow.laid ((laidWorld os).forCall (fun _ _ => 0) ⟨#[], args, []⟩).memory :=
  (LaidIn.of_run (l := Rows.isoSameRow.laid) [0, 7, 8, 4, 6, 3, 2, 5, N0, N0 + 1] 8 (by kernel_rfl) (by kernel_rfl) (by kernel_rfl) (by kernel_rfl)).met

set_option maxRecDepth 100000 in
theorem isoSame_contract (H : Type) (enc : TypeId × Value → H) (W : World) (base : Nat) (args : Array Value) (ds gs : List (DataW H)) (before : List MemPlace)
    (hval : ∀ (j : Nat) t v, Tryd.f3.params[j]? = some t → args[j]? = some v → Value.okWide Tryd.prog W .any base t v)
    (hW : DataW.Whole enc Tryd.prog Tryd.f3.params.toList Rows.isoSameSpec.vars false W args.toList ds gs before)
    (hsz : (DataW.weightsEach Tryd.prog (Tryd.f3.params.toList ++ (OpenSpec.ofChange Rows.isoSameSpec).bare.plain.varTypes Tryd.prog) (ds ++ gs)).all (· ≤ reachBytes) = true)
    (hL : laidMetH Tryd.prog Rows.isoSameRow.laid W) :
    Calls Tryd.prog 3 args W fun e W' => ∃ v, e = .returned v ∧ Rows.isoSameSpec.post enc Tryd.prog Tryd.f3 false true false false W args v W' := by
  have hW' := hW
  obtain ⟨p, q, hA0, hV, rfl, _, _⟩ := hW
  have hA : DataW.TrodAll enc Tryd.prog W 0 (fun _ => true) true Tryd.f3.params.toList args.toList ds p := hA0
  rw [Tryd.params3] at hA hval
  obtain ⟨v0, d0, rfl, rfl, h0⟩ := trodAll_one hA
  obtain ⟨rfl, rfl⟩ := trodVars_none hV
  obtain ⟨s, rfl, rfl, rfl, ws⟩ := open_string Tryd.underlying9 (hval 0 9 v0 rfl rfl) h0
  clear hA0
  have hlen : s.data.toList.length ≤ reachBytes := sized_string hsz (j := 0) (t := 9) rfl rfl
  have hs : s.size ≤ 140737488355328 := by
    rw [Lib.size_eq]; unfold reachBytes at hlen; omega
  obtain ⟨tl, tp⟩ := isoSame_tabs hL
  refine (isoSame_walk s W hs tp tl).mono ?_
  rintro e W' ⟨rfl, bel⟩
  refine ⟨_, rfl, _, _, _, [], [], [], hW', ?_, ?_, ?_, bel.frame _, fun h => by cases h⟩
  · exact trodAll_mk1 (shut_bool Tryd.underlying4 _)
  · exact trodAll_mk1 (shut_string Tryd.underlying9 ws)
  · rfl

theorem isoSame_reads (os : Os) {H : Type} (enc : TypeId × Value → H) : ∃ places, DataW.whole enc Tryd.prog ((laidWorld os).forCall (fun _ _ => 0) ⟨#[], #[.string ⟨#[]⟩], []⟩).memory Tryd.f3.params.toList Rows.isoSameSpec.vars false #[Value.string ⟨#[]⟩].toList 8 = some ([.lit (.string [])], [], places) :=
  ⟨[], by kernel_rfl⟩

set_option maxRecDepth 100000 in
theorem isoSame_lifted (os : Os) (started : os.Started) (H : Type) (enc : TypeId × Value → H) (F : Stop.Interp) :
    ReturnsInHanded {} Tryd.checked os 3 .any ((OpenSpec.ofChange Rows.isoSameSpec).preRow enc Tryd.prog Tryd.f3 Rows.isoSameRow.domain false Rows.isoSameRow.laid) (((OpenSpec.ofChange Rows.isoSameSpec).at F).post enc Tryd.prog Tryd.f3 false true false false) := by
  obtain ⟨places, hx⟩ := isoSame_reads os enc
  refine returnsInHanded_of_row (C := Tryd.checked) (s := OpenSpec.ofChange Rows.isoSameSpec) own started (by kernel_rfl) Tryd.func3
    (witness_row_atRef (enc := enc) (C := Tryd.checked) false (laidWorld os) #[.string ⟨#[]⟩] rfl (by kernel_rfl) (by kernel_rfl) (by kernel_rfl)
      (OpenSpec.preRow_of_cond 8 hx (by kernel_rfl) (fun k hk => by cases hk) (by kernel_rfl) (isoSame_laid os _))) ?_
  intro W base args ds gs before hval hW _ _ hsz hL _ _
  exact isoSame_contract H enc W base args ds gs before hval hW hsz hL

theorem isoSame_said : Rows.IsoSameSaid :=
  OpenClaim.holds_of_cond 3 Tryd.f3 rfl rfl rfl rfl rfl rfl rfl ⟨rfl, rfl, rfl, rfl, rfl⟩ rfl rfl rfl rfl rfl (by kernel_rfl) Tryd.func3 (by kernel_rfl)
    (of_decide_eq_true (by kernel_rfl)) (by unfold Func.isWrapper; first | (rw [if_pos (by decide +kernel)]; kernel_rfl) | (rw [if_neg (by decide +kernel)]; exact ⟨rfl, rfl⟩))
    (fun os started H enc _ F => by rw [OpenClaim.pre_eq_preRow]; exact isoSame_lifted os started H enc F)

theorem isoSame_plain (f : FuncId) (fn : Func) (hf : Tryd.pinned.checked.prog.funcNamed "epact/epactlaw25.IsoSame" = some f) (hfn : Tryd.pinned.checked.prog.funcs[f]? = some fn) :
    true = Tryd.pinned.checked.prog.looks [] ∧ ∀ (j : Nat) t, fn.params[j]? = some t → Tryd.pinned.checked.prog.wantsStandIn t = false := by
  obtain rfl : f = 3 := Option.some.inj ((show Tryd.prog.funcNamed "epact/epactlaw25.IsoSame" = some 3 by kernel_rfl).symm.trans hf) |>.symm
  obtain rfl : fn = Tryd.f3 := (Option.some.inj (Tryd.func3.symm.trans hfn)).symm
  refine ⟨by kernel_rfl, fun j t ht => ?_⟩
  rw [Tryd.params3] at ht
  obtain rfl : t = 9 := by simpa using Array.mem_of_getElem? ht
  exact (show Tryd.prog.wantsStandIn 9 = false by kernel_rfl)

theorem card : Rows.IsoSameCardSaid :=
  Claim7.holds_tied_plain_at .later [] _ _ _ _ isoSame_said (fun _ h => by cases h) (by kernel_rfl) (fun _ h => by cases h) isoSame_row_tie rfl ⟨rfl, rfl⟩ (by kernel_rfl) rfl isoSame_plain (by kernel_rfl)
end Go.Proofs.YtapbfkofoamaaaaDoor
