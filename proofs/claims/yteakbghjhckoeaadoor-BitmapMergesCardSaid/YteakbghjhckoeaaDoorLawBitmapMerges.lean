/- The law BitmapMerges: for every input the call tells true, and each argument reads behind it as it did before. No condition beyond those of the given row. -/
import Derived.Test.YteakbghjhckoeaaDoorRows
import Derived.Test.YteakbghjhckoeaaDoorPBitmapMergesy
import Derived.Test.YteakbghjhckoeaaDoorPureBitmapMerges
import Derived.WalkKit
import Derived.Test.YteakbghjhckoeaaDoorTabs
import Derived.Test.YteakbghjhckoeaaDoorCards
import Derived.Test.YteakbghjhckoeaaDoorTie
import Derived.LaidMore
import Derived.SevenTiedAt
import Derived.Lib.LaidTab
import Derived.Stop.Joined
import Derived.ProofKit
import Derived.OpenShut
import Derived.ShutString
import Derived.ChangeOld
import Derived.Below
import Derived.SizedLaws
import Derived.Test.YteakbghjhckoeaaDoorWSized
namespace Go.Proofs.YteakbghjhckoeaaDoor.bitmapMerges
open Go.ChangeShapes Go.WideShapes Go.ChangeAt Go.RowKit Go.Proofs.YteakbghjhckoeaaDoorW.PrintWords Go.Proofs.YteakbghjhckoeaaDoor.Open Go.Proofs.YteakbghjhckoeaaDoor.PBitmapMerges
open Go.Proofs.YteakbghjhckoeaaDoor.Tabs
open Go.ChangeMaps (open_string shut_string)
set_option linter.unusedVariables false
set_option linter.unusedSimpArgs false
theorem own : ownKnob Tryd.prog.godebug = none := by kernel_rfl
theorem laidOut : laidOutB Tryd.prog = true := by kernel_rfl
theorem gTab : Tryd.prog.globalNamed "math/bits.deBruijn64tab" = some 0 := by kernel_rfl
theorem door_met (os : Os) (args : Array Value) : laidMetH Tryd.prog Rows.bitmapMergesRow.laid ((World.doorLaid Tryd.prog 400 os).forCall (fun _ _ => 0) ⟨#[], args, []⟩).memory :=
  laidMetH_of_parts3 (fuel := 8) (laidMet_of_run' 8 (by kernel_rfl) (by kernel_rfl)) (by kernel_rfl) (by kernel_rfl)
theorem laid_is : Rows.bitmapMergesRow.laid = [("math/bits.deBruijn64tab", Lib.tabData .u8 (Lib.deBruijn64tab.map fun x : Nat => (x : Int)))] := by kernel_rfl
theorem tab_of_laid {W : World} (h : laidMetH Tryd.prog Rows.bitmapMergesRow.laid W) : Tab W := by
  rw [MakeChecks.laidMetH_plain _ _ _ (by kernel_rfl), laid_is] at h
  have ht := Lib.tabIs_of_head (t := 63) (e := 5) (n := 64) gTab (by kernel_rfl) (by kernel_rfl) (by kernel_rfl) (by kernel_rfl) (by kernel_rfl) h
  intro j hj
  have hl : Lib.deBruijn64tab.length = 64 := by decide
  have hc := ht.cell gTab j (by rw [List.length_map]; exact hj)
  rw [hc, List.getD_eq_getElem?_getD, List.getD_eq_getElem?_getD, List.getElem?_map, List.getElem?_eq_getElem hj]
  rfl
set_option maxRecDepth 100000 in
theorem lifted (os : Os) (started : os.Started) (H : Type) (enc : TypeId × Value → H) :
    ReturnsInHanded {} Tryd.checked os 6 .any (fun w args => (Rows.bitmapMergesSpec.pre enc Tryd.prog Tryd.f6 [] false w args ∧ laidMetH Tryd.prog Rows.bitmapMergesRow.laid w) ∧ sizedMet enc Tryd.prog Tryd.f6 (OpenSpec.ofChange Rows.bitmapMergesSpec) false w args)
      (Rows.bitmapMergesSpec.post enc Tryd.prog Tryd.f6 false true false false) := by
  refine returnsInHanded_of_change_and (C := Tryd.checked) (X := fun w _ => laidMetH Tryd.prog Rows.bitmapMergesRow.laid w) (fun _ _ _ hh h => h.of_heap hh) own started (by kernel_rfl) Tryd.func6
    (ChangeSpec.witness_shaped (enc := enc) (C := Tryd.checked) (os := os) (X := fun w _ => laidMetH Tryd.prog Rows.bitmapMergesRow.laid w) false (World.doorLaid Tryd.prog 400 os) #[.agg #[.int .u64 0, .slice none 0 0], .agg #[.int .u64 0, .slice none 0 0]] 8 rfl (World.shaped_of_RefB (by kernel_rfl) (by kernel_rfl)) (by kernel_rfl) (by kernel_rfl) (by kernel_rfl) (door_met os _)) ?_
  intro W base args ds gs before hval0 hW hcnd hsz0 hL _
  have hsz : (DataW.weightsEach Tryd.prog (Tryd.f6.params.toList ++ Rows.bitmapMergesSpec.plain.varTypes Tryd.prog) (ds ++ gs)).all (· ≤ reachBytes) = true := hsz0
  have hval : ∀ (j : Nat) t v, Tryd.f6.params[j]? = some t → args[j]? = some v → Value.okWide Tryd.prog W .any base t v := hval0
  have hW' := hW
  obtain ⟨p, q, hA0, hV, rfl, hfz, hnd⟩ := hW
  have hA : DataW.TrodAll enc Tryd.prog W 0 (fun _ => true) true Tryd.f6.params.toList args.toList ds p := hA0
  rw [Tryd.params6] at hA hval hsz
  obtain ⟨v0, vs0, d0, ds0, p0, q0, hargs, rfl, rfl, h0, r0⟩ := trodAll_cons hA
  obtain ⟨v1, vs1, d1, ds1, p1, q1, rfl, rfl, rfl, h1, r1⟩ := trodAll_cons r0
  obtain ⟨rfl, rfl, rfl⟩ := trodAll_nil r1
  obtain rfl : args = #[v0, v1] := by cases args; simp_all
  obtain ⟨rfl, rfl⟩ := trodVars_none hV
  have k0 := h0
  have lt0 : ∀ x ∈ p0, x.block < W.heap.size := by obtain ⟨m, hm⟩ := k0; exact DataW.trod_lt m _ _ _ hm
  obtain ⟨cs0, rfl, _⟩ := okWide_struct Tryd.underlying25 (hval 0 25 v0 rfl rfl)
  obtain ⟨fuel0, hf0⟩ := h0
  replace hf0 : DataW.trod enc Tryd.prog W 0 (fun _ => true) true fuel0 25 cs0.toList = some (d0, p0) := hf0
  obtain ⟨hl0_0, n0_0, hf0_0⟩ := fields_of Tryd.underlying25 hf0
  obtain ⟨x0_0, x0_1, es0⟩ := list_2 (hl0_0.trans (by kernel_rfl : Tryd.prog.cellsOf 25 = 2))
  obtain rfl : cs0 = #[x0_0, x0_1] := by rw [← Array.toList_inj]; exact es0
  clear es0
  obtain ⟨z0_0_0, e0_0_0⟩ := field_at hf0_0 0 rfl (ty := 22) (off := 0) (sz := 1) rfl rfl (by kernel_rfl)
  replace e0_0_0 : DataW.trod enc Tryd.prog W 0 (fun _ => true) true n0_0 22 [x0_0] = some z0_0_0 := e0_0_0
  obtain ⟨a0_0, k0_0_0, w0_0⟩ := (opens_int Tryd.underlying22) n0_0 _ _ e0_0_0
  obtain rfl := List.head_eq_of_cons_eq k0_0_0
  obtain ⟨z0_0_1, e0_0_1⟩ := field_at hf0_0 1 rfl (ty := 23) (off := 1) (sz := 1) rfl rfl (by kernel_rfl)
  replace e0_0_1 : DataW.trod enc Tryd.prog W 0 (fun _ => true) true n0_0 23 [x0_1] = some z0_0_1 := e0_0_1
  obtain ⟨l0_1, k0_0_1, w0_1⟩ := (opens_slice Tryd.underlying23 (by kernel_rfl) (opens_slice Tryd.underlying33 (by kernel_rfl) (opens_bool Tryd.underlying4))) n0_0 _ _ e0_0_1
  obtain ⟨A0_1, c0_1, e_, hc0_1, hr0_1⟩ := k0_0_1
  obtain rfl := List.head_eq_of_cons_eq e_
  have k1 := h1
  have lt1 : ∀ x ∈ p1, x.block < W.heap.size := by obtain ⟨m, hm⟩ := k1; exact DataW.trod_lt m _ _ _ hm
  obtain ⟨cs1, rfl, _⟩ := okWide_struct Tryd.underlying25 (hval 1 25 v1 rfl rfl)
  obtain ⟨fuel1, hf1⟩ := h1
  replace hf1 : DataW.trod enc Tryd.prog W 0 (fun _ => true) true fuel1 25 cs1.toList = some (d1, p1) := hf1
  obtain ⟨hl1_0, n1_0, hf1_0⟩ := fields_of Tryd.underlying25 hf1
  obtain ⟨x1_0, x1_1, es1⟩ := list_2 (hl1_0.trans (by kernel_rfl : Tryd.prog.cellsOf 25 = 2))
  obtain rfl : cs1 = #[x1_0, x1_1] := by rw [← Array.toList_inj]; exact es1
  clear es1
  obtain ⟨z1_0_0, e1_0_0⟩ := field_at hf1_0 0 rfl (ty := 22) (off := 0) (sz := 1) rfl rfl (by kernel_rfl)
  replace e1_0_0 : DataW.trod enc Tryd.prog W 0 (fun _ => true) true n1_0 22 [x1_0] = some z1_0_0 := e1_0_0
  obtain ⟨a1_0, k1_0_0, w1_0⟩ := (opens_int Tryd.underlying22) n1_0 _ _ e1_0_0
  obtain rfl := List.head_eq_of_cons_eq k1_0_0
  obtain ⟨z1_0_1, e1_0_1⟩ := field_at hf1_0 1 rfl (ty := 23) (off := 1) (sz := 1) rfl rfl (by kernel_rfl)
  replace e1_0_1 : DataW.trod enc Tryd.prog W 0 (fun _ => true) true n1_0 23 [x1_1] = some z1_0_1 := e1_0_1
  obtain ⟨l1_1, k1_0_1, w1_1⟩ := (opens_slice Tryd.underlying23 (by kernel_rfl) (opens_slice Tryd.underlying33 (by kernel_rfl) (opens_bool Tryd.underlying4))) n1_0 _ _ e1_0_1
  obtain ⟨A1_1, c1_1, e_, hc1_1, hr1_1⟩ := k1_0_1
  obtain rfl := List.head_eq_of_cons_eq e_
  have hT : Tab W := tab_of_laid hL
  clear hA0 hval0 hsz0 hsz
  obtain ⟨k, hk⟩ := Pure.BitmapMerges a0_0 l0_1 a1_0 l1_1 w0_0 w0_1 w1_0 w1_1
  refine (rillmeterlaw13_BitmapMerges.calls (k := k) (a0_0 := a0_0) (l0_1 := l0_1) (A0_1 := _) (c0_1 := _) (hr0_1 := hr0_1) (hc0_1 := hc0_1) (a1_0 := a1_0) (l1_1 := l1_1) (A1_1 := _) (c1_1 := _) (hr1_1 := hr1_1) (hc1_1 := hc1_1) (r := true) (w := W) (h := hk) (hrt := ⟨rfl⟩) (HT0 := ⟨hT⟩)).mono fun e W' ⟨he, bel⟩ => ?_
  subst he
  exact ⟨_, rfl, _, _, _, [], _, [], hW', trodAll_mk1 (shut_bool Tryd.underlying4 _), (trodAll_cons_mk (Below.trod laidOut (by kernel_rfl) (of_decide_eq_true (by kernel_rfl)) k0 bel lt0) (trodAll_cons_mk (Below.trod laidOut (by kernel_rfl) (of_decide_eq_true (by kernel_rfl)) k1 bel lt1) trodAll_mk0)), rfl, bel.frame _, fun h => by cases h⟩
theorem over : Rows.bitmapMergesRow.holds Tryd.pinned (OpenSpec.ofChange Rows.bitmapMergesSpec) :=
  OpenClaim.holds_of_wide 6 Tryd.f6 rfl rfl rfl rfl rfl rfl rfl ⟨rfl, rfl, rfl, rfl, rfl⟩ rfl rfl rfl rfl rfl (by kernel_rfl) Tryd.func6 (by kernel_rfl)
    (of_decide_eq_true (by kernel_rfl)) (by unfold Func.isWrapper; first | (rw [if_pos (by decide +kernel)]; kernel_rfl) | (rw [if_neg (by decide +kernel)]; exact ⟨rfl, rfl⟩))
    (fun os started H enc _ => lifted os started H enc)
theorem proved : Rows.BitmapMergesSaid := over
theorem carded : Rows.BitmapMergesCardSaid :=
  Claim7.holds_tied_plain_at .later [] [.data] true (true, "ecb506c506860cdf976bbccb1a807101d354d8884e17b599636ff1d1ede8f659") false
    proved (fun _ h => by cases h) (by kernel_rfl) (fun _ h => by cases h) bitmapMerges_row_tie rfl ⟨rfl, rfl⟩ (by kernel_rfl) rfl
    (fun f fn hf hfn => by
      obtain rfl : f = 6 := Option.some.inj ((show Tryd.prog.funcNamed "rillmeter/rillmeterlaw13.BitmapMerges" = some 6 by kernel_rfl).symm.trans hf) |>.symm
      obtain rfl : fn = Tryd.f6 := (Option.some.inj (Tryd.func6.symm.trans hfn)).symm
      exact ⟨by kernel_rfl, fun j t ht => by
        rw [Tryd.params6] at ht
        have hm : t ∈ [25, 25] := by simpa using Array.mem_of_getElem? ht
        have hall : ([25, 25].all fun u => !Tryd.prog.wantsStandIn u) = true := by kernel_rfl
        exact (show Tryd.prog.wantsStandIn t = false by simpa using List.all_eq_true.1 hall t hm)⟩)
    (by kernel_rfl)
end Go.Proofs.YteakbghjhckoeaaDoor.bitmapMerges
namespace Go.Proofs.YteakbghjhckoeaaDoor
/-- The row, under a short name, for the claim. -/
theorem bitmapMerges_holds : Rows.BitmapMergesCardSaid := bitmapMerges.carded
end Go.Proofs.YteakbghjhckoeaaDoor
