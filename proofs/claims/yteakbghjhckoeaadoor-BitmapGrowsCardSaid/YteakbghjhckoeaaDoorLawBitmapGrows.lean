/- The law BitmapGrows: for every input the call tells true, and each argument reads behind it as it did before. No condition beyond those of the given row. -/
import Derived.Test.YteakbghjhckoeaaDoorRows
import Derived.Test.YteakbghjhckoeaaDoorPBitmapGrowsy
import Derived.Test.YteakbghjhckoeaaDoorPureBitmapGrows
import Derived.WalkKit
import Derived.Test.YteakbghjhckoeaaDoorTabs
import Derived.Test.YteakbghjhckoeaaDoorCards
import Derived.Test.YteakbghjhckoeaaDoorTie
import Derived.LaidMore
import Derived.SevenTiedAt
import Derived.Lib.LaidTab
import Derived.Stop.Joined
import Derived.ProofKit
import Derived.OpenShut
import Derived.ShutString
import Derived.ChangeOld
import Derived.Below
import Derived.SizedLaws
import Derived.Test.YteakbghjhckoeaaDoorWSized
namespace Go.Proofs.YteakbghjhckoeaaDoor.bitmapGrows
open Go.ChangeShapes Go.WideShapes Go.ChangeAt Go.RowKit Go.Proofs.YteakbghjhckoeaaDoorW.PrintWords Go.Proofs.YteakbghjhckoeaaDoor.Open Go.Proofs.YteakbghjhckoeaaDoor.PBitmapGrows
open Go.Proofs.YteakbghjhckoeaaDoor.Tabs
open Go.ChangeMaps (open_string shut_string)
set_option linter.unusedVariables false
set_option linter.unusedSimpArgs false
theorem own : ownKnob Tryd.prog.godebug = none := by kernel_rfl
theorem laidOut : laidOutB Tryd.prog = true := by kernel_rfl
theorem gTab : Tryd.prog.globalNamed "math/bits.deBruijn64tab" = some 0 := by kernel_rfl
theorem door_met (os : Os) (args : Array Value) : laidMetH Tryd.prog Rows.bitmapGrowsRow.laid ((World.doorLaid Tryd.prog 400 os).forCall (fun _ _ => 0) ⟨#[], args, []⟩).memory :=
  laidMetH_of_parts3 (fuel := 8) (laidMet_of_run' 8 (by kernel_rfl) (by kernel_rfl)) (by kernel_rfl) (by kernel_rfl)
theorem laid_is : Rows.bitmapGrowsRow.laid = [("math/bits.deBruijn64tab", Lib.tabData .u8 (Lib.deBruijn64tab.map fun x : Nat => (x : Int)))] := by kernel_rfl
theorem tab_of_laid {W : World} (h : laidMetH Tryd.prog Rows.bitmapGrowsRow.laid W) : Tab W := by
  rw [MakeChecks.laidMetH_plain _ _ _ (by kernel_rfl), laid_is] at h
  have ht := Lib.tabIs_of_head (t := 63) (e := 5) (n := 64) gTab (by kernel_rfl) (by kernel_rfl) (by kernel_rfl) (by kernel_rfl) (by kernel_rfl) h
  intro j hj
  have hl : Lib.deBruijn64tab.length = 64 := by decide
  have hc := ht.cell gTab j (by rw [List.length_map]; exact hj)
  rw [hc, List.getD_eq_getElem?_getD, List.getD_eq_getElem?_getD, List.getElem?_map, List.getElem?_eq_getElem hj]
  rfl
set_option maxRecDepth 100000 in
theorem lifted (os : Os) (started : os.Started) (H : Type) (enc : TypeId × Value → H) :
    ReturnsInHanded {} Tryd.checked os 7 .any (fun w args => (Rows.bitmapGrowsSpec.pre enc Tryd.prog Tryd.f7 [] false w args ∧ laidMetH Tryd.prog Rows.bitmapGrowsRow.laid w) ∧ sizedMet enc Tryd.prog Tryd.f7 (OpenSpec.ofChange Rows.bitmapGrowsSpec) false w args)
      (Rows.bitmapGrowsSpec.post enc Tryd.prog Tryd.f7 false true false false) := by
  refine returnsInHanded_of_change_and (C := Tryd.checked) (X := fun w _ => laidMetH Tryd.prog Rows.bitmapGrowsRow.laid w) (fun _ _ _ hh h => h.of_heap hh) own started (by kernel_rfl) Tryd.func7
    (ChangeSpec.witness_shaped (enc := enc) (C := Tryd.checked) (os := os) (X := fun w _ => laidMetH Tryd.prog Rows.bitmapGrowsRow.laid w) false (World.doorLaid Tryd.prog 400 os) #[.int .u64 0, .int .i64 0, .int .i64 0, .slice none 0 0, .slice none 0 0] 8 rfl (World.shaped_of_RefB (by kernel_rfl) (by kernel_rfl)) (by kernel_rfl) (by kernel_rfl) (by kernel_rfl) (door_met os _)) ?_
  intro W base args ds gs before hval0 hW hcnd hsz0 hL _
  have hsz : (DataW.weightsEach Tryd.prog (Tryd.f7.params.toList ++ Rows.bitmapGrowsSpec.plain.varTypes Tryd.prog) (ds ++ gs)).all (· ≤ reachBytes) = true := hsz0
  have hval : ∀ (j : Nat) t v, Tryd.f7.params[j]? = some t → args[j]? = some v → Value.okWide Tryd.prog W .any base t v := hval0
  have hW' := hW
  obtain ⟨p, q, hA0, hV, rfl, hfz, hnd⟩ := hW
  have hA : DataW.TrodAll enc Tryd.prog W 0 (fun _ => true) true Tryd.f7.params.toList args.toList ds p := hA0
  rw [Tryd.params7] at hA hval hsz
  obtain ⟨v0, vs0, d0, ds0, p0, q0, hargs, rfl, rfl, h0, r0⟩ := trodAll_cons hA
  obtain ⟨v1, vs1, d1, ds1, p1, q1, rfl, rfl, rfl, h1, r1⟩ := trodAll_cons r0
  obtain ⟨v2, vs2, d2, ds2, p2, q2, rfl, rfl, rfl, h2, r2⟩ := trodAll_cons r1
  obtain ⟨v3, vs3, d3, ds3, p3, q3, rfl, rfl, rfl, h3, r3⟩ := trodAll_cons r2
  obtain ⟨v4, vs4, d4, ds4, p4, q4, rfl, rfl, rfl, h4, r4⟩ := trodAll_cons r3
  obtain ⟨rfl, rfl, rfl⟩ := trodAll_nil r4
  obtain rfl : args = #[v0, v1, v2, v3, v4] := by cases args; simp_all
  obtain ⟨rfl, rfl⟩ := trodVars_none hV
  obtain ⟨a0, rfl, rfl, rfl, w0⟩ := open_int Tryd.underlying22 (hval 0 22 v0 rfl rfl) h0
  obtain ⟨a1, rfl, rfl, rfl, w1⟩ := open_int Tryd.underlying3 (hval 1 3 v1 rfl rfl) h1
  obtain ⟨a2, rfl, rfl, rfl, w2⟩ := open_int Tryd.underlying3 (hval 2 3 v2 rfl rfl) h2
  have k3 := h3
  have lt3 : ∀ x ∈ p3, x.block < W.heap.size := by obtain ⟨m, hm⟩ := k3; exact DataW.trod_lt m _ _ _ hm
  obtain ⟨l3, hK3, w3⟩ : ∃ l, ((Kd.slice 9 Kd.string)).K W l v3.cells.toList ∧ (l.length ≤ maxLen ∧ ∀ y0 ∈ l, y0.size ≤ maxLen) := by
    obtain ⟨fuel, hf⟩ := h3
    exact (opens_slice Tryd.underlying45 (by kernel_rfl) (opens_string Tryd.underlying9)) fuel _ _ hf
  obtain ⟨A3_, n3_, c3_, rfl⟩ := okWide_slice Tryd.underlying45 (hval 3 45 v3 rfl rfl)
  obtain ⟨A3, c3, e3_, hc3, hr3⟩ := hK3
  obtain ⟨rfl, rfl, rfl⟩ : A3_ = A3 ∧ n3_ = l3.length ∧ c3_ = c3 := by simpa [Value.cells] using e3_
  have k4 := h4
  have lt4 : ∀ x ∈ p4, x.block < W.heap.size := by obtain ⟨m, hm⟩ := k4; exact DataW.trod_lt m _ _ _ hm
  obtain ⟨l4, hK4, w4⟩ : ∃ l, ((Kd.slice 9 Kd.string)).K W l v4.cells.toList ∧ (l.length ≤ maxLen ∧ ∀ y0 ∈ l, y0.size ≤ maxLen) := by
    obtain ⟨fuel, hf⟩ := h4
    exact (opens_slice Tryd.underlying45 (by kernel_rfl) (opens_string Tryd.underlying9)) fuel _ _ hf
  obtain ⟨A4_, n4_, c4_, rfl⟩ := okWide_slice Tryd.underlying45 (hval 4 45 v4 rfl rfl)
  obtain ⟨A4, c4, e4_, hc4, hr4⟩ := hK4
  obtain ⟨rfl, rfl, rfl⟩ : A4_ = A4 ∧ n4_ = l4.length ∧ c4_ = c4 := by simpa [Value.cells] using e4_
  have hT : Tab W := tab_of_laid hL
  clear hA0 hval0 hsz0 hsz
  obtain ⟨k, hk⟩ := Pure.BitmapGrows a0 a1 a2 l3 l4 w0 w1 w2 w3 w4
  refine (rillmeterlaw13_BitmapGrows.calls (k := k) (a0 := a0) (a1 := a1) (a2 := a2) (l3 := l3) (A3 := _) (c3 := _) (hr3 := hr3) (hc3 := hc3) (l4 := l4) (A4 := _) (c4 := _) (hr4 := hr4) (hc4 := hc4) (r := true) (w := W) (h := hk) (hrt := ⟨rfl⟩) (HT0 := ⟨hT⟩)).mono fun e W' ⟨he, bel⟩ => ?_
  subst he
  exact ⟨_, rfl, _, _, _, [], _, [], hW', trodAll_mk1 (shut_bool Tryd.underlying4 _), (trodAll_cons_mk (shut_int Tryd.underlying22 w0) (trodAll_cons_mk (shut_int Tryd.underlying3 w1) (trodAll_cons_mk (shut_int Tryd.underlying3 w2) (trodAll_cons_mk (Below.trod laidOut (by kernel_rfl) (of_decide_eq_true (by kernel_rfl)) k3 bel lt3) (trodAll_cons_mk (Below.trod laidOut (by kernel_rfl) (of_decide_eq_true (by kernel_rfl)) k4 bel lt4) trodAll_mk0))))), rfl, bel.frame _, fun h => by cases h⟩
theorem over : Rows.bitmapGrowsRow.holds Tryd.pinned (OpenSpec.ofChange Rows.bitmapGrowsSpec) :=
  OpenClaim.holds_of_wide 7 Tryd.f7 rfl rfl rfl rfl rfl rfl rfl ⟨rfl, rfl, rfl, rfl, rfl⟩ rfl rfl rfl rfl rfl (by kernel_rfl) Tryd.func7 (by kernel_rfl)
    (of_decide_eq_true (by kernel_rfl)) (by unfold Func.isWrapper; first | (rw [if_pos (by decide +kernel)]; kernel_rfl) | (rw [if_neg (by decide +kernel)]; exact ⟨rfl, rfl⟩))
    (fun os started H enc _ => lifted os started H enc)
theorem proved : Rows.BitmapGrowsSaid := over
theorem carded : Rows.BitmapGrowsCardSaid :=
  Claim7.holds_tied_plain_at .later [] [.data] true (true, "ecb506c506860cdf976bbccb1a807101d354d8884e17b599636ff1d1ede8f659") false
    proved (fun _ h => by cases h) (by kernel_rfl) (fun _ h => by cases h) bitmapGrows_row_tie rfl ⟨rfl, rfl⟩ (by kernel_rfl) rfl
    (fun f fn hf hfn => by
      obtain rfl : f = 7 := Option.some.inj ((show Tryd.prog.funcNamed "rillmeter/rillmeterlaw13.BitmapGrows" = some 7 by kernel_rfl).symm.trans hf) |>.symm
      obtain rfl : fn = Tryd.f7 := (Option.some.inj (Tryd.func7.symm.trans hfn)).symm
      exact ⟨by kernel_rfl, fun j t ht => by
        rw [Tryd.params7] at ht
        have hm : t ∈ [22, 3, 3, 45, 45] := by simpa using Array.mem_of_getElem? ht
        have hall : ([22, 3, 3, 45, 45].all fun u => !Tryd.prog.wantsStandIn u) = true := by kernel_rfl
        exact (show Tryd.prog.wantsStandIn t = false by simpa using List.all_eq_true.1 hall t hm)⟩)
    (by kernel_rfl)
end Go.Proofs.YteakbghjhckoeaaDoor.bitmapGrows
namespace Go.Proofs.YteakbghjhckoeaaDoor
/-- The row, under a short name, for the claim. -/
theorem bitmapGrows_holds : Rows.BitmapGrowsCardSaid := bitmapGrows.carded
end Go.Proofs.YteakbghjhckoeaaDoor
