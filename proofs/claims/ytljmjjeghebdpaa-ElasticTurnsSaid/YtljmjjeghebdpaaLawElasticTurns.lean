/- The law ElasticTurns: for every input the call tells true, and each argument reads behind it as it did before. No condition beyond those of the given row. -/
import Derived.Test.YtljmjjeghebdpaaRows
import Derived.Test.YtljmjjeghebdpaaPElasticTurnsy
import Derived.Test.YtljmjjeghebdpaaPureElasticTurns
import Derived.WalkKit
import Derived.ProofKit
import Derived.OpenShut
import Derived.ShutString
import Derived.ChangeOld
import Derived.Below
import Derived.SizedLaws
import Derived.Test.YtljmjjeghebdpaaWSized
namespace Go.Proofs.Ytljmjjeghebdpaa.elasticTurns
open Go.ChangeShapes Go.WideShapes Go.ChangeAt Go.RowKit Go.Proofs.YtljmjjeghebdpaaW.PrintWords Go.Proofs.Ytljmjjeghebdpaa.OpenZ Go.Proofs.Ytljmjjeghebdpaa.PElasticTurns
open Go.Proofs.Ytljmjjeghebdpaa.Open (list_one list_2 list_3 list_4 list_5 list_6 list_7 list_8 list_9 list_10 list_11 list_12)
open Go.ChangeMaps (open_string shut_string)
set_option linter.unusedVariables false
set_option linter.unusedSimpArgs false
theorem own : ownKnob Try.prog.godebug = none := by kernel_rfl
theorem laidOut : laidOutB Try.prog = true := by kernel_rfl
set_option maxRecDepth 100000 in
theorem lifted (os : Os) (started : os.Started) (H : Type) (enc : TypeId × Value → H) :
    ReturnsInHanded {} Try.checked os 3 .any (Rows.elasticTurnsSpec.pre6 enc Try.prog Try.f3 Rows.elasticTurnsRow.domain false) (Rows.elasticTurnsSpec.post enc Try.prog Try.f3 false true false false) := by
  refine returnsInHanded_of_change_sized (C := Try.checked) own started (by kernel_rfl) Try.func3
    (ChangeSpec.witness6 (enc := enc) (C := Try.checked) false ⟨#[], #[.agg #[.int .u64 0, .int .i64 0, .int .i64 0, .slice none 0 0, .int .u64 0, .int .i64 0, .slice none 0 0], .string ByteArray.empty, .int .i64 0], []⟩ 8 (by kernel_rfl) (by kernel_rfl) (by kernel_rfl) (by kernel_rfl)) ?_
  intro W base args ds gs before hval0 hW hcnd hsz0 _
  have hsz : (DataW.weightsEach Try.prog (Try.f3.params.toList ++ Rows.elasticTurnsSpec.plain.varTypes Try.prog) (ds ++ gs)).all (· ≤ reachBytes) = true := hsz0
  have hval : ∀ (j : Nat) t v, Try.f3.params[j]? = some t → args[j]? = some v → Value.okWide Try.prog W .any base t v := hval0
  have hW' := hW
  obtain ⟨p, q, hA0, hV, rfl, hfz, hnd⟩ := hW
  have hA : DataW.TrodAll enc Try.prog W 0 (fun _ => true) true Try.f3.params.toList args.toList ds p := hA0
  rw [Try.params3] at hA hval hsz
  obtain ⟨v0, vs0, d0, ds0, p0, q0, hargs, rfl, rfl, h0, r0⟩ := trodAll_cons hA
  obtain ⟨v1, vs1, d1, ds1, p1, q1, rfl, rfl, rfl, h1, r1⟩ := trodAll_cons r0
  obtain ⟨v2, vs2, d2, ds2, p2, q2, rfl, rfl, rfl, h2, r2⟩ := trodAll_cons r1
  obtain ⟨rfl, rfl, rfl⟩ := trodAll_nil r2
  obtain rfl : args = #[v0, v1, v2] := by cases args; simp_all
  obtain ⟨rfl, rfl⟩ := trodVars_none hV
  have k0 := h0
  have lt0 : ∀ x ∈ p0, x.block < W.heap.size := by obtain ⟨m, hm⟩ := k0; exact DataW.trod_lt m _ _ _ hm
  obtain ⟨cs0, rfl, _⟩ := okWide_struct Try.underlying28 (hval 0 28 v0 rfl rfl)
  obtain ⟨fuel0, hf0⟩ := h0
  replace hf0 : TrodZ enc Try.prog W fuel0 28 cs0.toList (d0, p0) := trodZ_param hsz (j := 0) (t := 28) rfl rfl hf0
  obtain ⟨hl0_0, n0_0, hf0_0⟩ := fields_of Try.underlying28 hf0
  obtain ⟨x0_0, x0_1, x0_2, x0_3, x0_4, x0_5, x0_6, es0⟩ := list_7 (hl0_0.trans (by kernel_rfl : Try.prog.cellsOf 28 = 7))
  obtain rfl : cs0 = #[x0_0, x0_1, x0_2, x0_3, x0_4, x0_5, x0_6] := by rw [← Array.toList_inj]; exact es0
  clear es0
  obtain ⟨z0_0_0, e0_0_0⟩ := field_at hf0_0 0 rfl (ty := 22) (off := 0) (sz := 1) rfl rfl (by kernel_rfl)
  replace e0_0_0 : TrodZ enc Try.prog W n0_0 22 [x0_0] z0_0_0 := e0_0_0
  obtain ⟨a0_0, k0_0_0, w0_0⟩ := (opens_int Try.underlying22) n0_0 _ _ e0_0_0
  obtain rfl := List.head_eq_of_cons_eq k0_0_0
  obtain ⟨z0_0_1, e0_0_1⟩ := field_at hf0_0 1 rfl (ty := 3) (off := 1) (sz := 1) rfl rfl (by kernel_rfl)
  replace e0_0_1 : TrodZ enc Try.prog W n0_0 3 [x0_1] z0_0_1 := e0_0_1
  obtain ⟨a0_1, k0_0_1, w0_1⟩ := (opens_int Try.underlying3) n0_0 _ _ e0_0_1
  obtain rfl := List.head_eq_of_cons_eq k0_0_1
  obtain ⟨z0_0_2, e0_0_2⟩ := field_at hf0_0 2 rfl (ty := 3) (off := 2) (sz := 1) rfl rfl (by kernel_rfl)
  replace e0_0_2 : TrodZ enc Try.prog W n0_0 3 [x0_2] z0_0_2 := e0_0_2
  obtain ⟨a0_2, k0_0_2, w0_2⟩ := (opens_int Try.underlying3) n0_0 _ _ e0_0_2
  obtain rfl := List.head_eq_of_cons_eq k0_0_2
  obtain ⟨z0_0_3, e0_0_3⟩ := field_at hf0_0 3 rfl (ty := 23) (off := 3) (sz := 1) rfl rfl (by kernel_rfl)
  replace e0_0_3 : TrodZ enc Try.prog W n0_0 23 [x0_3] z0_0_3 := e0_0_3
  obtain ⟨l0_3, k0_0_3, w0_3⟩ := (opens_slice Try.underlying23 (by kernel_rfl) (B := 32) (by kernel_rfl) opens_T56) n0_0 _ _ e0_0_3
  obtain ⟨A0_3, c0_3, e_, hc0_3, hr0_3⟩ := k0_0_3
  obtain rfl := List.head_eq_of_cons_eq e_
  obtain ⟨z0_0_4, e0_0_4⟩ := field_at hf0_0 4 rfl (ty := 26) (off := 4) (sz := 3) rfl rfl (by kernel_rfl)
  replace e0_0_4 : TrodZ enc Try.prog W n0_0 26 [x0_4, x0_5, x0_6] z0_0_4 := e0_0_4
  obtain ⟨hl0_1, n0_1, hf0_1⟩ := fields_of Try.underlying26 e0_0_4
  obtain ⟨z0_1_0, e0_1_0⟩ := field_at hf0_1 0 rfl (ty := 22) (off := 0) (sz := 1) rfl rfl (by kernel_rfl)
  replace e0_1_0 : TrodZ enc Try.prog W n0_1 22 [x0_4] z0_1_0 := e0_1_0
  obtain ⟨a0_4, k0_1_0, w0_4⟩ := (opens_int Try.underlying22) n0_1 _ _ e0_1_0
  obtain rfl := List.head_eq_of_cons_eq k0_1_0
  obtain ⟨z0_1_1, e0_1_1⟩ := field_at hf0_1 1 rfl (ty := 3) (off := 1) (sz := 1) rfl rfl (by kernel_rfl)
  replace e0_1_1 : TrodZ enc Try.prog W n0_1 3 [x0_5] z0_1_1 := e0_1_1
  obtain ⟨a0_5, k0_1_1, w0_5⟩ := (opens_int Try.underlying3) n0_1 _ _ e0_1_1
  obtain rfl := List.head_eq_of_cons_eq k0_1_1
  obtain ⟨z0_1_2, e0_1_2⟩ := field_at hf0_1 2 rfl (ty := 24) (off := 2) (sz := 1) rfl rfl (by kernel_rfl)
  replace e0_1_2 : TrodZ enc Try.prog W n0_1 24 [x0_6] z0_1_2 := e0_1_2
  obtain ⟨l0_6, k0_1_2, w0_6⟩ := (opens_slice Try.underlying24 (by kernel_rfl) (B := 24) (by kernel_rfl) (opens_slice Try.underlying57 (by kernel_rfl) (B := 8) (by kernel_rfl) (opens_int Try.underlying3))) n0_1 _ _ e0_1_2
  obtain ⟨A0_6, c0_6, e_, hc0_6, hr0_6⟩ := k0_1_2
  obtain rfl := List.head_eq_of_cons_eq e_
  obtain ⟨a1, rfl, rfl, rfl, y1⟩ := open_string Try.underlying9 (hval 1 9 v1 rfl rfl) h1
  have w1 : a1.size ≤ 140737488351232 := by
    have z := sized_string hsz (j := 1) (t := 9) rfl rfl
    rw [Array.length_toList] at z
    exact z
  obtain ⟨a2, rfl, rfl, rfl, w2⟩ := open_int Try.underlying3 (hval 2 3 v2 rfl rfl) h2
  clear hA0 hval0 hsz0 hsz
  obtain ⟨k, hk⟩ := Pure.ElasticTurns a0_0 a0_1 a0_2 l0_3 a0_4 a0_5 l0_6 a1 a2 w0_0 w0_1 w0_2 w0_3 w0_4 w0_5 w0_6 w1 w2
  refine (rillmeterlaw15_ElasticTurns.calls (k := k) (a0_0 := a0_0) (a0_1 := a0_1) (a0_2 := a0_2) (l0_3 := l0_3) (A0_3 := _) (c0_3 := _) (hr0_3 := hr0_3) (hc0_3 := hc0_3) (a0_4 := a0_4) (a0_5 := a0_5) (l0_6 := l0_6) (A0_6 := _) (c0_6 := _) (hr0_6 := hr0_6) (hc0_6 := hc0_6) (a1 := a1) (a2 := a2) (r := true) (w := W) (h := hk) (hrt := ⟨rfl⟩)).mono fun e W' ⟨he, bel⟩ => ?_
  subst he
  exact ⟨_, rfl, _, _, _, [], _, [], hW', trodAll_mk1 (shut_bool Try.underlying4 _), (trodAll_cons_mk (Below.trod laidOut (by kernel_rfl) (of_decide_eq_true (by kernel_rfl)) k0 bel lt0) (trodAll_cons_mk (shut_string Try.underlying9 y1) (trodAll_cons_mk (shut_int Try.underlying3 w2) trodAll_mk0))), rfl, bel.frame _, fun h => by cases h⟩
theorem over : Rows.elasticTurnsRow.holds Try.pinned (OpenSpec.ofChange Rows.elasticTurnsSpec) :=
  OpenClaim.holds_of_wide 3 Try.f3 rfl rfl rfl rfl rfl rfl rfl ⟨rfl, rfl, rfl, rfl, rfl⟩ rfl rfl rfl rfl rfl (by kernel_rfl) Try.func3 (by kernel_rfl)
    (of_decide_eq_true (by kernel_rfl)) (by unfold Func.isWrapper; first | (rw [if_pos (by decide +kernel)]; kernel_rfl) | (rw [if_neg (by decide +kernel)]; exact ⟨rfl, rfl⟩))
    (fun os started H enc _ => lifted os started H enc)
theorem proved : Rows.ElasticTurnsSaid := over
end Go.Proofs.Ytljmjjeghebdpaa.elasticTurns
namespace Go.Proofs.Ytljmjjeghebdpaa
/-- The row, under a short name, for the claim. -/
theorem elasticTurns_holds : Rows.ElasticTurnsSaid := elasticTurns.proved
end Go.Proofs.Ytljmjjeghebdpaa
