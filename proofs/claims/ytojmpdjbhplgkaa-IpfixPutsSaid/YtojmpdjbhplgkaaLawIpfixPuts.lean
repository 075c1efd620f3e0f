/- The law IpfixPuts: for every input the call tells true, and each argument reads behind it as it did before. No condition beyond those of the given row. -/
import Derived.Test.YtojmpdjbhplgkaaRows
import Derived.Test.YtojmpdjbhplgkaaPIpfixPutsy
import Derived.Test.YtojmpdjbhplgkaaPureIpfixPuts
import Derived.WalkKit
import Derived.ProofKit
import Derived.OpenShut
import Derived.ShutString
import Derived.ChangeOld
import Derived.Below
import Derived.SizedLaws
import Derived.Test.YtojmpdjbhplgkaaWSized
namespace Go.Proofs.Ytojmpdjbhplgkaa.ipfixPuts
open Go.ChangeShapes Go.WideShapes Go.ChangeAt Go.RowKit Go.Proofs.YtojmpdjbhplgkaaW.PrintWords Go.Proofs.Ytojmpdjbhplgkaa.OpenZ Go.Proofs.Ytojmpdjbhplgkaa.PIpfixPuts
open Go.Proofs.Ytojmpdjbhplgkaa.Open (list_4)
open Go.ChangeMaps (open_string shut_string)
set_option linter.unusedVariables false
set_option linter.unusedSimpArgs false
theorem own : ownKnob Try.prog.godebug = none := by kernel_rfl
theorem laidOut : laidOutB Try.prog = true := by kernel_rfl
set_option maxRecDepth 100000 in
theorem lifted (os : Os) (started : os.Started) (H : Type) (enc : TypeId × Value → H) :
    ReturnsInHanded {} Try.checked os 6 .any (Rows.ipfixPutsSpec.pre6 enc Try.prog Try.f6 Rows.ipfixPutsRow.domain false) (Rows.ipfixPutsSpec.post enc Try.prog Try.f6 false true false false) := by
  refine returnsInHanded_of_change_sized (C := Try.checked) own started (by kernel_rfl) Try.func6
    (ChangeSpec.witness6 (enc := enc) (C := Try.checked) false ⟨#[], #[.agg #[.int .i64 0, .int .i64 0, .int .i64 0, .slice none 0 0]], []⟩ 8 (by kernel_rfl) (by kernel_rfl) (by kernel_rfl) (by kernel_rfl)) ?_
  intro W base args ds gs before hval0 hW hcnd hsz0 _
  have hsz : (DataW.weightsEach Try.prog (Try.f6.params.toList ++ Rows.ipfixPutsSpec.plain.varTypes Try.prog) (ds ++ gs)).all (· ≤ reachBytes) = true := hsz0
  have hval : ∀ (j : Nat) t v, Try.f6.params[j]? = some t → args[j]? = some v → Value.okWide Try.prog W .any base t v := hval0
  have hW' := hW
  obtain ⟨p, q, hA0, hV, rfl, hfz, hnd⟩ := hW
  have hA : DataW.TrodAll enc Try.prog W 0 (fun _ => true) true Try.f6.params.toList args.toList ds p := hA0
  rw [Try.params6] at hA hval hsz
  obtain ⟨v0, vs0, d0, ds0, p0, q0, hargs, rfl, rfl, h0, r0⟩ := trodAll_cons hA
  obtain ⟨rfl, rfl, rfl⟩ := trodAll_nil r0
  obtain rfl : args = #[v0] := by cases args; simp_all
  obtain ⟨rfl, rfl⟩ := trodVars_none hV
  have k0 := h0
  have lt0 : ∀ x ∈ p0, x.block < W.heap.size := by obtain ⟨m, hm⟩ := k0; exact DataW.trod_lt m _ _ _ hm
  obtain ⟨cs0, rfl, _⟩ := okWide_struct Try.underlying32 (hval 0 32 v0 rfl rfl)
  obtain ⟨fuel0, hf0⟩ := h0
  replace hf0 : TrodZ enc Try.prog W fuel0 32 cs0.toList (d0, p0) := trodZ_param hsz (j := 0) (t := 32) rfl rfl hf0
  obtain ⟨hl0_0, n0_0, hf0_0⟩ := fields_of Try.underlying32 hf0
  obtain ⟨x0_0, x0_1, x0_2, x0_3, es0⟩ := list_4 (hl0_0.trans (by kernel_rfl : Try.prog.cellsOf 32 = 4))
  obtain rfl : cs0 = #[x0_0, x0_1, x0_2, x0_3] := by rw [← Array.toList_inj]; exact es0
  clear es0
  obtain ⟨z0_0_0, e0_0_0⟩ := field_at hf0_0 0 rfl (ty := 3) (off := 0) (sz := 1) rfl rfl (by kernel_rfl)
  replace e0_0_0 : TrodZ enc Try.prog W n0_0 3 [x0_0] z0_0_0 := e0_0_0
  obtain ⟨a0_0, k0_0_0, w0_0⟩ := (opens_int Try.underlying3) n0_0 _ _ e0_0_0
  obtain rfl := List.head_eq_of_cons_eq k0_0_0
  obtain ⟨z0_0_1, e0_0_1⟩ := field_at hf0_0 1 rfl (ty := 3) (off := 1) (sz := 1) rfl rfl (by kernel_rfl)
  replace e0_0_1 : TrodZ enc Try.prog W n0_0 3 [x0_1] z0_0_1 := e0_0_1
  obtain ⟨a0_1, k0_0_1, w0_1⟩ := (opens_int Try.underlying3) n0_0 _ _ e0_0_1
  obtain rfl := List.head_eq_of_cons_eq k0_0_1
  obtain ⟨z0_0_2, e0_0_2⟩ := field_at hf0_0 2 rfl (ty := 3) (off := 2) (sz := 1) rfl rfl (by kernel_rfl)
  replace e0_0_2 : TrodZ enc Try.prog W n0_0 3 [x0_2] z0_0_2 := e0_0_2
  obtain ⟨a0_2, k0_0_2, w0_2⟩ := (opens_int Try.underlying3) n0_0 _ _ e0_0_2
  obtain rfl := List.head_eq_of_cons_eq k0_0_2
  obtain ⟨z0_0_3, e0_0_3⟩ := field_at hf0_0 3 rfl (ty := 30) (off := 3) (sz := 1) rfl rfl (by kernel_rfl)
  replace e0_0_3 : TrodZ enc Try.prog W n0_0 30 [x0_3] z0_0_3 := e0_0_3
  obtain ⟨l0_3, k0_0_3, w0_3⟩ := (opens_slice Try.underlying30 (by kernel_rfl) (B := 48) (by kernel_rfl) opens_T29) n0_0 _ _ e0_0_3
  obtain ⟨A0_3, c0_3, e_, hc0_3, hr0_3⟩ := k0_0_3
  obtain rfl := List.head_eq_of_cons_eq e_
  clear hA0 hval0 hsz0 hsz
  obtain ⟨k, hk⟩ := Pure.IpfixPuts a0_0 a0_1 a0_2 l0_3 w0_0 w0_1 w0_2 w0_3
  refine (rillmeterlaw22_IpfixPuts.calls (k := k) (a0_0 := a0_0) (a0_1 := a0_1) (a0_2 := a0_2) (l0_3 := l0_3) (A0_3 := _) (c0_3 := _) (hr0_3 := hr0_3) (hc0_3 := hc0_3) (r := true) (w := W) (h := hk) (hrt := ⟨rfl⟩)).mono fun e W' ⟨he, bel⟩ => ?_
  subst he
  exact ⟨_, rfl, _, _, _, [], _, [], hW', trodAll_mk1 (shut_bool Try.underlying4 _), (trodAll_cons_mk (Below.trod laidOut (by kernel_rfl) (of_decide_eq_true (by kernel_rfl)) k0 bel lt0) trodAll_mk0), rfl, bel.frame _, fun h => by cases h⟩
theorem over : Rows.ipfixPutsRow.holds Try.pinned (OpenSpec.ofChange Rows.ipfixPutsSpec) :=
  OpenClaim.holds_of_wide 6 Try.f6 rfl rfl rfl rfl rfl rfl rfl ⟨rfl, rfl, rfl, rfl, rfl⟩ rfl rfl rfl rfl rfl (by kernel_rfl) Try.func6 (by kernel_rfl)
    (of_decide_eq_true (by kernel_rfl)) (by unfold Func.isWrapper; first | (rw [if_pos (by decide +kernel)]; kernel_rfl) | (rw [if_neg (by decide +kernel)]; exact ⟨rfl, rfl⟩))
    (fun os started H enc _ => lifted os started H enc)
theorem proved : Rows.IpfixPutsSaid := over
end Go.Proofs.Ytojmpdjbhplgkaa.ipfixPuts
namespace Go.Proofs.Ytojmpdjbhplgkaa
/-- The row, under a short name, for the claim. -/
theorem ipfixPuts_holds : Rows.IpfixPutsSaid := ipfixPuts.proved
end Go.Proofs.Ytojmpdjbhplgkaa
