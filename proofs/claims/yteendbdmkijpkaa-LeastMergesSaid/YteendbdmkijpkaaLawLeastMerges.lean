/- The law LeastMerges: for every input the call tells true, and each argument reads behind it as it did before. No condition beyond those of the given row. -/
import Derived.Test.YteendbdmkijpkaaRows
import Derived.Test.YteendbdmkijpkaaPLeastMergesy
import Derived.Test.YteendbdmkijpkaaPureLeastMerges
import Derived.WalkKit
import Derived.ProofKit
import Derived.OpenShut
import Derived.ShutString
import Derived.ChangeOld
import Derived.Below
import Derived.SizedLaws
import Derived.Test.YteendbdmkijpkaaWSized
namespace Go.Proofs.Yteendbdmkijpkaa.leastMerges
open Go.ChangeShapes Go.WideShapes Go.ChangeAt Go.RowKit Go.Proofs.YteendbdmkijpkaaW.PrintWords Go.Proofs.Yteendbdmkijpkaa.Open Go.Proofs.Yteendbdmkijpkaa.PLeastMerges
open Go.ChangeMaps (open_string shut_string)
set_option linter.unusedVariables false
set_option linter.unusedSimpArgs false
theorem own : ownKnob Try.prog.godebug = none := by kernel_rfl
theorem laidOut : laidOutB Try.prog = true := by kernel_rfl
set_option maxRecDepth 100000 in
theorem lifted (os : Os) (started : os.Started) (H : Type) (enc : TypeId × Value → H) :
    ReturnsInHanded {} Try.checked os 7 .any (Rows.leastMergesSpec.pre6 enc Try.prog Try.f7 Rows.leastMergesRow.domain false) (Rows.leastMergesSpec.post enc Try.prog Try.f7 false true false false) := by
  refine returnsInHanded_of_change_sized (C := Try.checked) own started (by kernel_rfl) Try.func7
    (ChangeSpec.witness6 (enc := enc) (C := Try.checked) false ⟨#[], #[.agg #[.int .u64 0, .int .i64 0, .slice none 0 0], .agg #[.int .u64 0, .int .i64 0, .slice none 0 0]], []⟩ 8 (by kernel_rfl) (by kernel_rfl) (by kernel_rfl) (by kernel_rfl)) ?_
  intro W base args ds gs before hval0 hW hcnd hsz0 _
  have hsz : (DataW.weightsEach Try.prog (Try.f7.params.toList ++ Rows.leastMergesSpec.plain.varTypes Try.prog) (ds ++ gs)).all (· ≤ reachBytes) = true := hsz0
  have hval : ∀ (j : Nat) t v, Try.f7.params[j]? = some t → args[j]? = some v → Value.okWide Try.prog W .any base t v := hval0
  have hW' := hW
  obtain ⟨p, q, hA0, hV, rfl, hfz, hnd⟩ := hW
  have hA : DataW.TrodAll enc Try.prog W 0 (fun _ => true) true Try.f7.params.toList args.toList ds p := hA0
  rw [Try.params7] at hA hval hsz
  obtain ⟨v0, vs0, d0, ds0, p0, q0, hargs, rfl, rfl, h0, r0⟩ := trodAll_cons hA
  obtain ⟨v1, vs1, d1, ds1, p1, q1, rfl, rfl, rfl, h1, r1⟩ := trodAll_cons r0
  obtain ⟨rfl, rfl, rfl⟩ := trodAll_nil r1
  obtain rfl : args = #[v0, v1] := by cases args; simp_all
  obtain ⟨rfl, rfl⟩ := trodVars_none hV
  have k0 := h0
  have lt0 : ∀ x ∈ p0, x.block < W.heap.size := by obtain ⟨m, hm⟩ := k0; exact DataW.trod_lt m _ _ _ hm
  obtain ⟨cs0, rfl, _⟩ := okWide_struct Try.underlying25 (hval 0 25 v0 rfl rfl)
  obtain ⟨fuel0, hf0⟩ := h0
  replace hf0 : DataW.trod enc Try.prog W 0 (fun _ => true) true fuel0 25 cs0.toList = some (d0, p0) := hf0
  obtain ⟨hl0_0, n0_0, hf0_0⟩ := fields_of Try.underlying25 hf0
  obtain ⟨x0_0, x0_1, x0_2, es0⟩ := list_3 (hl0_0.trans (by kernel_rfl : Try.prog.cellsOf 25 = 3))
  obtain rfl : cs0 = #[x0_0, x0_1, x0_2] := by rw [← Array.toList_inj]; exact es0
  clear es0
  obtain ⟨z0_0_0, e0_0_0⟩ := field_at hf0_0 0 rfl (ty := 22) (off := 0) (sz := 1) rfl rfl (by kernel_rfl)
  replace e0_0_0 : DataW.trod enc Try.prog W 0 (fun _ => true) true n0_0 22 [x0_0] = some z0_0_0 := e0_0_0
  obtain ⟨a0_0, k0_0_0, w0_0⟩ := (opens_int Try.underlying22) n0_0 _ _ e0_0_0
  obtain rfl := List.head_eq_of_cons_eq k0_0_0
  obtain ⟨z0_0_1, e0_0_1⟩ := field_at hf0_0 1 rfl (ty := 3) (off := 1) (sz := 1) rfl rfl (by kernel_rfl)
  replace e0_0_1 : DataW.trod enc Try.prog W 0 (fun _ => true) true n0_0 3 [x0_1] = some z0_0_1 := e0_0_1
  obtain ⟨a0_1, k0_0_1, w0_1⟩ := (opens_int Try.underlying3) n0_0 _ _ e0_0_1
  obtain rfl := List.head_eq_of_cons_eq k0_0_1
  obtain ⟨z0_0_2, e0_0_2⟩ := field_at hf0_0 2 rfl (ty := 23) (off := 2) (sz := 1) rfl rfl (by kernel_rfl)
  replace e0_0_2 : DataW.trod enc Try.prog W 0 (fun _ => true) true n0_0 23 [x0_2] = some z0_0_2 := e0_0_2
  obtain ⟨l0_2, k0_0_2, w0_2⟩ := (opens_slice Try.underlying23 (by kernel_rfl) (opens_slice Try.underlying33 (by kernel_rfl) (opens_int Try.underlying3))) n0_0 _ _ e0_0_2
  obtain ⟨A0_2, c0_2, e_, hc0_2, hr0_2⟩ := k0_0_2
  obtain rfl := List.head_eq_of_cons_eq e_
  have k1 := h1
  have lt1 : ∀ x ∈ p1, x.block < W.heap.size := by obtain ⟨m, hm⟩ := k1; exact DataW.trod_lt m _ _ _ hm
  obtain ⟨cs1, rfl, _⟩ := okWide_struct Try.underlying25 (hval 1 25 v1 rfl rfl)
  obtain ⟨fuel1, hf1⟩ := h1
  replace hf1 : DataW.trod enc Try.prog W 0 (fun _ => true) true fuel1 25 cs1.toList = some (d1, p1) := hf1
  obtain ⟨hl1_0, n1_0, hf1_0⟩ := fields_of Try.underlying25 hf1
  obtain ⟨x1_0, x1_1, x1_2, es1⟩ := list_3 (hl1_0.trans (by kernel_rfl : Try.prog.cellsOf 25 = 3))
  obtain rfl : cs1 = #[x1_0, x1_1, x1_2] := by rw [← Array.toList_inj]; exact es1
  clear es1
  obtain ⟨z1_0_0, e1_0_0⟩ := field_at hf1_0 0 rfl (ty := 22) (off := 0) (sz := 1) rfl rfl (by kernel_rfl)
  replace e1_0_0 : DataW.trod enc Try.prog W 0 (fun _ => true) true n1_0 22 [x1_0] = some z1_0_0 := e1_0_0
  obtain ⟨a1_0, k1_0_0, w1_0⟩ := (opens_int Try.underlying22) n1_0 _ _ e1_0_0
  obtain rfl := List.head_eq_of_cons_eq k1_0_0
  obtain ⟨z1_0_1, e1_0_1⟩ := field_at hf1_0 1 rfl (ty := 3) (off := 1) (sz := 1) rfl rfl (by kernel_rfl)
  replace e1_0_1 : DataW.trod enc Try.prog W 0 (fun _ => true) true n1_0 3 [x1_1] = some z1_0_1 := e1_0_1
  obtain ⟨a1_1, k1_0_1, w1_1⟩ := (opens_int Try.underlying3) n1_0 _ _ e1_0_1
  obtain rfl := List.head_eq_of_cons_eq k1_0_1
  obtain ⟨z1_0_2, e1_0_2⟩ := field_at hf1_0 2 rfl (ty := 23) (off := 2) (sz := 1) rfl rfl (by kernel_rfl)
  replace e1_0_2 : DataW.trod enc Try.prog W 0 (fun _ => true) true n1_0 23 [x1_2] = some z1_0_2 := e1_0_2
  obtain ⟨l1_2, k1_0_2, w1_2⟩ := (opens_slice Try.underlying23 (by kernel_rfl) (opens_slice Try.underlying33 (by kernel_rfl) (opens_int Try.underlying3))) n1_0 _ _ e1_0_2
  obtain ⟨A1_2, c1_2, e_, hc1_2, hr1_2⟩ := k1_0_2
  obtain rfl := List.head_eq_of_cons_eq e_
  clear hA0 hval0 hsz0 hsz
  obtain ⟨k, hk⟩ := Pure.LeastMerges a0_0 a0_1 l0_2 a1_0 a1_1 l1_2 w0_0 w0_1 w0_2 w1_0 w1_1 w1_2
  refine (rillmeterlaw11_LeastMerges.calls (k := k) (a0_0 := a0_0) (a0_1 := a0_1) (l0_2 := l0_2) (A0_2 := _) (c0_2 := _) (hr0_2 := hr0_2) (hc0_2 := hc0_2) (a1_0 := a1_0) (a1_1 := a1_1) (l1_2 := l1_2) (A1_2 := _) (c1_2 := _) (hr1_2 := hr1_2) (hc1_2 := hc1_2) (r := true) (w := W) (h := hk) (hrt := ⟨rfl⟩)).mono fun e W' ⟨he, bel⟩ => ?_
  subst he
  exact ⟨_, rfl, _, _, _, [], _, [], hW', trodAll_mk1 (shut_bool Try.underlying4 _), (trodAll_cons_mk (Below.trod laidOut (by kernel_rfl) (of_decide_eq_true (by kernel_rfl)) k0 bel lt0) (trodAll_cons_mk (Below.trod laidOut (by kernel_rfl) (of_decide_eq_true (by kernel_rfl)) k1 bel lt1) trodAll_mk0)), rfl, bel.frame _, fun h => by cases h⟩
theorem over : Rows.leastMergesRow.holds Try.pinned (OpenSpec.ofChange Rows.leastMergesSpec) :=
  OpenClaim.holds_of_wide 7 Try.f7 rfl rfl rfl rfl rfl rfl rfl ⟨rfl, rfl, rfl, rfl, rfl⟩ rfl rfl rfl rfl rfl (by kernel_rfl) Try.func7 (by kernel_rfl)
    (of_decide_eq_true (by kernel_rfl)) (by unfold Func.isWrapper; first | (rw [if_pos (by decide +kernel)]; kernel_rfl) | (rw [if_neg (by decide +kernel)]; exact ⟨rfl, rfl⟩))
    (fun os started H enc _ => lifted os started H enc)
theorem proved : Rows.LeastMergesSaid := over
end Go.Proofs.Yteendbdmkijpkaa.leastMerges
namespace Go.Proofs.Yteendbdmkijpkaa
/-- The row, under a short name, for the claim. -/
theorem leastMerges_holds : Rows.LeastMergesSaid := leastMerges.proved
end Go.Proofs.Yteendbdmkijpkaa
