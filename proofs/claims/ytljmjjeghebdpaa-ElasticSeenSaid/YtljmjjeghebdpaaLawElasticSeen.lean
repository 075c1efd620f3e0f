/- The law ElasticSeen: for every input the call tells true, and each argument reads behind it as it did before. No condition beyond those of the given row. -/
import Derived.Test.YtljmjjeghebdpaaRows
import Derived.Test.YtljmjjeghebdpaaPElasticSeeny
import Derived.Test.YtljmjjeghebdpaaPureElasticSeen
import Derived.WalkKit
import Derived.ProofKit
import Derived.OpenShut
import Derived.ShutString
import Derived.ChangeOld
import Derived.Below
import Derived.SizedLaws
import Derived.Test.YtljmjjeghebdpaaWSized
namespace Go.Proofs.Ytljmjjeghebdpaa.elasticSeen
open Go.ChangeShapes Go.WideShapes Go.ChangeAt Go.RowKit Go.Proofs.YtljmjjeghebdpaaW.PrintWords Go.Proofs.Ytljmjjeghebdpaa.Open Go.Proofs.Ytljmjjeghebdpaa.PElasticSeen
open Go.ChangeMaps (open_string shut_string)
set_option linter.unusedVariables false
set_option linter.unusedSimpArgs false
theorem own : ownKnob Try.prog.godebug = none := by kernel_rfl
theorem laidOut : laidOutB Try.prog = true := by kernel_rfl
set_option maxRecDepth 100000 in
theorem lifted (os : Os) (started : os.Started) (H : Type) (enc : TypeId × Value → H) :
    ReturnsInHanded {} Try.checked os 6 .any (Rows.elasticSeenSpec.pre6 enc Try.prog Try.f6 Rows.elasticSeenRow.domain false) (Rows.elasticSeenSpec.post enc Try.prog Try.f6 false true false false) := by
  refine returnsInHanded_of_change_sized (C := Try.checked) own started (by kernel_rfl) Try.func6
    (ChangeSpec.witness6 (enc := enc) (C := Try.checked) false ⟨#[], #[.agg #[.int .u64 0, .int .i64 0, .int .i64 0, .int .i64 0, .int .i64 0, .int .i64 0], .slice none 0 0, .int .i64 0], []⟩ 8 (by kernel_rfl) (by kernel_rfl) (by kernel_rfl) (by kernel_rfl)) ?_
  intro W base args ds gs before hval0 hW hcnd hsz0 _
  have hsz : (DataW.weightsEach Try.prog (Try.f6.params.toList ++ Rows.elasticSeenSpec.plain.varTypes Try.prog) (ds ++ gs)).all (· ≤ reachBytes) = true := hsz0
  have hval : ∀ (j : Nat) t v, Try.f6.params[j]? = some t → args[j]? = some v → Value.okWide Try.prog W .any base t v := hval0
  have hW' := hW
  obtain ⟨p, q, hA0, hV, rfl, hfz, hnd⟩ := hW
  have hA : DataW.TrodAll enc Try.prog W 0 (fun _ => true) true Try.f6.params.toList args.toList ds p := hA0
  rw [Try.params6] at hA hval hsz
  obtain ⟨v0, vs0, d0, ds0, p0, q0, hargs, rfl, rfl, h0, r0⟩ := trodAll_cons hA
  obtain ⟨v1, vs1, d1, ds1, p1, q1, rfl, rfl, rfl, h1, r1⟩ := trodAll_cons r0
  obtain ⟨v2, vs2, d2, ds2, p2, q2, rfl, rfl, rfl, h2, r2⟩ := trodAll_cons r1
  obtain ⟨rfl, rfl, rfl⟩ := trodAll_nil r2
  obtain rfl : args = #[v0, v1, v2] := by cases args; simp_all
  obtain ⟨rfl, rfl⟩ := trodVars_none hV
  have k0 := h0
  have lt0 : ∀ x ∈ p0, x.block < W.heap.size := by obtain ⟨m, hm⟩ := k0; exact DataW.trod_lt m _ _ _ hm
  obtain ⟨cs0, rfl, _⟩ := okWide_struct Try.underlying60 (hval 0 60 v0 rfl rfl)
  obtain ⟨fuel0, hf0⟩ := h0
  replace hf0 : DataW.trod enc Try.prog W 0 (fun _ => true) true fuel0 60 cs0.toList = some (d0, p0) := hf0
  obtain ⟨hl0_0, n0_0, hf0_0⟩ := fields_of Try.underlying60 hf0
  obtain ⟨x0_0, x0_1, x0_2, x0_3, x0_4, x0_5, es0⟩ := list_6 (hl0_0.trans (by kernel_rfl : Try.prog.cellsOf 60 = 6))
  obtain rfl : cs0 = #[x0_0, x0_1, x0_2, x0_3, x0_4, x0_5] := by rw [← Array.toList_inj]; exact es0
  clear es0
  obtain ⟨z0_0_0, e0_0_0⟩ := field_at hf0_0 0 rfl (ty := 22) (off := 0) (sz := 1) rfl rfl (by kernel_rfl)
  replace e0_0_0 : DataW.trod enc Try.prog W 0 (fun _ => true) true n0_0 22 [x0_0] = some z0_0_0 := e0_0_0
  obtain ⟨a0_0, k0_0_0, w0_0⟩ := (opens_int Try.underlying22) n0_0 _ _ e0_0_0
  obtain rfl := List.head_eq_of_cons_eq k0_0_0
  obtain ⟨z0_0_1, e0_0_1⟩ := field_at hf0_0 1 rfl (ty := 3) (off := 1) (sz := 1) rfl rfl (by kernel_rfl)
  replace e0_0_1 : DataW.trod enc Try.prog W 0 (fun _ => true) true n0_0 3 [x0_1] = some z0_0_1 := e0_0_1
  obtain ⟨a0_1, k0_0_1, w0_1⟩ := (opens_int Try.underlying3) n0_0 _ _ e0_0_1
  obtain rfl := List.head_eq_of_cons_eq k0_0_1
  obtain ⟨z0_0_2, e0_0_2⟩ := field_at hf0_0 2 rfl (ty := 3) (off := 2) (sz := 1) rfl rfl (by kernel_rfl)
  replace e0_0_2 : DataW.trod enc Try.prog W 0 (fun _ => true) true n0_0 3 [x0_2] = some z0_0_2 := e0_0_2
  obtain ⟨a0_2, k0_0_2, w0_2⟩ := (opens_int Try.underlying3) n0_0 _ _ e0_0_2
  obtain rfl := List.head_eq_of_cons_eq k0_0_2
  obtain ⟨z0_0_3, e0_0_3⟩ := field_at hf0_0 3 rfl (ty := 3) (off := 3) (sz := 1) rfl rfl (by kernel_rfl)
  replace e0_0_3 : DataW.trod enc Try.prog W 0 (fun _ => true) true n0_0 3 [x0_3] = some z0_0_3 := e0_0_3
  obtain ⟨a0_3, k0_0_3, w0_3⟩ := (opens_int Try.underlying3) n0_0 _ _ e0_0_3
  obtain rfl := List.head_eq_of_cons_eq k0_0_3
  obtain ⟨z0_0_4, e0_0_4⟩ := field_at hf0_0 4 rfl (ty := 3) (off := 4) (sz := 1) rfl rfl (by kernel_rfl)
  replace e0_0_4 : DataW.trod enc Try.prog W 0 (fun _ => true) true n0_0 3 [x0_4] = some z0_0_4 := e0_0_4
  obtain ⟨a0_4, k0_0_4, w0_4⟩ := (opens_int Try.underlying3) n0_0 _ _ e0_0_4
  obtain rfl := List.head_eq_of_cons_eq k0_0_4
  obtain ⟨z0_0_5, e0_0_5⟩ := field_at hf0_0 5 rfl (ty := 3) (off := 5) (sz := 1) rfl rfl (by kernel_rfl)
  replace e0_0_5 : DataW.trod enc Try.prog W 0 (fun _ => true) true n0_0 3 [x0_5] = some z0_0_5 := e0_0_5
  obtain ⟨a0_5, k0_0_5, w0_5⟩ := (opens_int Try.underlying3) n0_0 _ _ e0_0_5
  obtain rfl := List.head_eq_of_cons_eq k0_0_5
  have k1 := h1
  have lt1 : ∀ x ∈ p1, x.block < W.heap.size := by obtain ⟨m, hm⟩ := k1; exact DataW.trod_lt m _ _ _ hm
  obtain ⟨l1, hK1, w1⟩ : ∃ l, ((Kd.slice 9 Kd.string)).K W l v1.cells.toList ∧ (l.length ≤ maxLen ∧ ∀ y0 ∈ l, y0.size ≤ maxLen) := by
    obtain ⟨fuel, hf⟩ := h1
    exact (opens_slice Try.underlying61 (by kernel_rfl) (opens_string Try.underlying9)) fuel _ _ hf
  obtain ⟨A1_, n1_, c1_, rfl⟩ := okWide_slice Try.underlying61 (hval 1 61 v1 rfl rfl)
  obtain ⟨A1, c1, e1_, hc1, hr1⟩ := hK1
  obtain ⟨rfl, rfl, rfl⟩ : A1_ = A1 ∧ n1_ = l1.length ∧ c1_ = c1 := by simpa [Value.cells] using e1_
  obtain ⟨a2, rfl, rfl, rfl, w2⟩ := open_int Try.underlying3 (hval 2 3 v2 rfl rfl) h2
  clear hA0 hval0 hsz0 hsz
  obtain ⟨k, hk⟩ := Pure.ElasticSeen a0_0 a0_1 a0_2 a0_3 a0_4 a0_5 l1 a2 w0_0 w0_1 w0_2 w0_3 w0_4 w0_5 w1 w2
  refine (rillmeterlaw15_ElasticSeen.calls (k := k) (a0_0 := a0_0) (a0_1 := a0_1) (a0_2 := a0_2) (a0_3 := a0_3) (a0_4 := a0_4) (a0_5 := a0_5) (l1 := l1) (A1 := _) (c1 := _) (hr1 := hr1) (hc1 := hc1) (a2 := a2) (r := true) (w := W) (h := hk) (hrt := ⟨rfl⟩)).mono fun e W' ⟨he, bel⟩ => ?_
  subst he
  exact ⟨_, rfl, _, _, _, [], _, [], hW', trodAll_mk1 (shut_bool Try.underlying4 _), (trodAll_cons_mk (Below.trod laidOut (by kernel_rfl) (of_decide_eq_true (by kernel_rfl)) k0 bel lt0) (trodAll_cons_mk (Below.trod laidOut (by kernel_rfl) (of_decide_eq_true (by kernel_rfl)) k1 bel lt1) (trodAll_cons_mk (shut_int Try.underlying3 w2) trodAll_mk0))), rfl, bel.frame _, fun h => by cases h⟩
theorem over : Rows.elasticSeenRow.holds Try.pinned (OpenSpec.ofChange Rows.elasticSeenSpec) :=
  OpenClaim.holds_of_wide 6 Try.f6 rfl rfl rfl rfl rfl rfl rfl ⟨rfl, rfl, rfl, rfl, rfl⟩ rfl rfl rfl rfl rfl (by kernel_rfl) Try.func6 (by kernel_rfl)
    (of_decide_eq_true (by kernel_rfl)) (by unfold Func.isWrapper; first | (rw [if_pos (by decide +kernel)]; kernel_rfl) | (rw [if_neg (by decide +kernel)]; exact ⟨rfl, rfl⟩))
    (fun os started H enc _ => lifted os started H enc)
theorem proved : Rows.ElasticSeenSaid := over
end Go.Proofs.Ytljmjjeghebdpaa.elasticSeen
namespace Go.Proofs.Ytljmjjeghebdpaa
/-- The row, under a short name, for the claim. -/
theorem elasticSeen_holds : Rows.ElasticSeenSaid := elasticSeen.proved
end Go.Proofs.Ytljmjjeghebdpaa
