/- The law SolveTurns: for every input the call tells true, and each argument reads behind it as it did before. No condition beyond those of the given row. -/
import Derived.Test.YtoplnkbhgpamaaaRows
import Derived.Test.YtoplnkbhgpamaaaPSolveTurnsy
import Derived.Test.YtoplnkbhgpamaaaPureSolveTurns
import Derived.WalkKit
import Derived.ProofKit
import Derived.OpenShut
import Derived.ShutString
import Derived.ChangeOld
import Derived.Below
import Derived.SizedLaws
import Derived.Test.YtoplnkbhgpamaaaWSized
namespace Go.Proofs.Ytoplnkbhgpamaaa.solveTurns
open Go.ChangeShapes Go.WideShapes Go.ChangeAt Go.RowKit Go.Proofs.YtoplnkbhgpamaaaW.PrintWords Go.Proofs.Ytoplnkbhgpamaaa.Open Go.Proofs.Ytoplnkbhgpamaaa.PSolveTurns
open Go.ChangeMaps (open_string shut_string)
set_option linter.unusedVariables false
set_option linter.unusedSimpArgs false
theorem own : ownKnob Try.prog.godebug = none := by kernel_rfl
theorem laidOut : laidOutB Try.prog = true := by kernel_rfl
set_option maxRecDepth 100000 in
theorem lifted (os : Os) (started : os.Started) (H : Type) (enc : TypeId × Value → H) :
    ReturnsInHanded {} Try.checked os 5 .any (Rows.solveTurnsSpec.pre6 enc Try.prog Try.f5 Rows.solveTurnsRow.domain false) (Rows.solveTurnsSpec.post enc Try.prog Try.f5 false true false false) := by
  refine returnsInHanded_of_change_sized (C := Try.checked) own started (by kernel_rfl) Try.func5
    (ChangeSpec.witness6 (enc := enc) (C := Try.checked) false ⟨#[], #[.slice none 0 0, .slice none 0 0], []⟩ 8 (by kernel_rfl) (by kernel_rfl) (by kernel_rfl) (by kernel_rfl)) ?_
  intro W base args ds gs before hval0 hW hcnd hsz0 _
  have hsz : (DataW.weightsEach Try.prog (Try.f5.params.toList ++ Rows.solveTurnsSpec.plain.varTypes Try.prog) (ds ++ gs)).all (· ≤ reachBytes) = true := hsz0
  have hval : ∀ (j : Nat) t v, Try.f5.params[j]? = some t → args[j]? = some v → Value.okWide Try.prog W .any base t v := hval0
  have hW' := hW
  obtain ⟨p, q, hA0, hV, rfl, hfz, hnd⟩ := hW
  have hA : DataW.TrodAll enc Try.prog W 0 (fun _ => true) true Try.f5.params.toList args.toList ds p := hA0
  rw [Try.params5] at hA hval hsz
  obtain ⟨v0, vs0, d0, ds0, p0, q0, hargs, rfl, rfl, h0, r0⟩ := trodAll_cons hA
  obtain ⟨v1, vs1, d1, ds1, p1, q1, rfl, rfl, rfl, h1, r1⟩ := trodAll_cons r0
  obtain ⟨rfl, rfl, rfl⟩ := trodAll_nil r1
  obtain rfl : args = #[v0, v1] := by cases args; simp_all
  obtain ⟨rfl, rfl⟩ := trodVars_none hV
  have k0 := h0
  have lt0 : ∀ x ∈ p0, x.block < W.heap.size := by obtain ⟨m, hm⟩ := k0; exact DataW.trod_lt m _ _ _ hm
  obtain ⟨l0, hK0, w0⟩ : ∃ l, ((Kd.slice 30 (Kd.slice 36 (Kd.int .u64)))).K W l v0.cells.toList ∧ (l.length ≤ maxLen ∧ ∀ y0 ∈ l, (y0.length ≤ maxLen ∧ ∀ y1 ∈ y0, (Lit.int .u64 y1).wf = true)) := by
    obtain ⟨fuel, hf⟩ := h0
    exact (opens_slice Try.underlying22 (by kernel_rfl) (opens_slice Try.underlying30 (by kernel_rfl) (opens_int Try.underlying36))) fuel _ _ hf
  obtain ⟨A0_, n0_, c0_, rfl⟩ := okWide_slice Try.underlying22 (hval 0 22 v0 rfl rfl)
  obtain ⟨A0, c0, e0_, hc0, hr0⟩ := hK0
  obtain ⟨rfl, rfl, rfl⟩ : A0_ = A0 ∧ n0_ = l0.length ∧ c0_ = c0 := by simpa [Value.cells] using e0_
  have k1 := h1
  have lt1 : ∀ x ∈ p1, x.block < W.heap.size := by obtain ⟨m, hm⟩ := k1; exact DataW.trod_lt m _ _ _ hm
  obtain ⟨l1, hK1, w1⟩ : ∃ l, ((Kd.slice 36 (Kd.int .u64))).K W l v1.cells.toList ∧ (l.length ≤ maxLen ∧ ∀ y0 ∈ l, (Lit.int .u64 y0).wf = true) := by
    obtain ⟨fuel, hf⟩ := h1
    exact (opens_slice Try.underlying30 (by kernel_rfl) (opens_int Try.underlying36)) fuel _ _ hf
  obtain ⟨A1_, n1_, c1_, rfl⟩ := okWide_slice Try.underlying30 (hval 1 30 v1 rfl rfl)
  obtain ⟨A1, c1, e1_, hc1, hr1⟩ := hK1
  obtain ⟨rfl, rfl, rfl⟩ : A1_ = A1 ∧ n1_ = l1.length ∧ c1_ = c1 := by simpa [Value.cells] using e1_
  clear hA0 hval0 hsz0 hsz
  obtain ⟨k, hk⟩ := Pure.SolveTurns l0 l1 w0 w1
  refine (rillmeterlaw03_SolveTurns.calls (k := k) (l0 := l0) (A0 := _) (c0 := _) (P0_ := _) (hs0 := (Kd.V_mk hc0 (Kd.C_F (by repeat (first | exact Kd.heap_int _ | exact Kd.heap_bool | exact Kd.heap_string | refine Kd.heap_slice _ ?_)) hr0))) (l1 := l1) (A1 := _) (c1 := _) (P1_ := _) (hs1 := (Kd.V_mk hc1 (Kd.C_F (by repeat (first | exact Kd.heap_int _ | exact Kd.heap_bool | exact Kd.heap_string | refine Kd.heap_slice _ ?_)) hr1))) (r := true) (w := W) (h := hk) (hrt := ⟨rfl⟩)).mono fun e W' ⟨he, bel⟩ => ?_
  subst he
  exact ⟨_, rfl, _, _, _, [], _, [], hW', trodAll_mk1 (shut_bool Try.underlying4 _), (trodAll_cons_mk (Below.trod laidOut (by kernel_rfl) (of_decide_eq_true (by kernel_rfl)) k0 bel lt0) (trodAll_cons_mk (Below.trod laidOut (by kernel_rfl) (of_decide_eq_true (by kernel_rfl)) k1 bel lt1) trodAll_mk0)), rfl, bel.frame _, fun h => by cases h⟩
theorem over : Rows.solveTurnsRow.holds Try.pinned (OpenSpec.ofChange Rows.solveTurnsSpec) :=
  OpenClaim.holds_of_wide 5 Try.f5 rfl rfl rfl rfl rfl rfl rfl ⟨rfl, rfl, rfl, rfl, rfl⟩ rfl rfl rfl rfl rfl (by kernel_rfl) Try.func5 (by kernel_rfl)
    (of_decide_eq_true (by kernel_rfl)) (by unfold Func.isWrapper; first | (rw [if_pos (by decide +kernel)]; kernel_rfl) | (rw [if_neg (by decide +kernel)]; exact ⟨rfl, rfl⟩))
    (fun os started H enc _ => lifted os started H enc)
theorem proved : Rows.SolveTurnsSaid := over
end Go.Proofs.Ytoplnkbhgpamaaa.solveTurns
namespace Go.Proofs.Ytoplnkbhgpamaaa
/-- The row, under a short name, for the claim. -/
theorem solveTurns_holds : Rows.SolveTurnsSaid := solveTurns.proved
end Go.Proofs.Ytoplnkbhgpamaaa
