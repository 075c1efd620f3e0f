/- The law BloomKeeps: for every input the call tells true, and each argument reads behind it as it did before. No condition beyond those of the given row. -/
import Derived.Test.YtmlcafnnhpfpaaaRows
import Derived.Test.YtmlcafnnhpfpaaaPBloomKeepsy
import Derived.Test.YtmlcafnnhpfpaaaPureBloomKeeps
import Derived.WalkKit
import Derived.ProofKit
import Derived.OpenShut
import Derived.ShutString
import Derived.ChangeOld
import Derived.Below
import Derived.SizedLaws
import Derived.Test.YtmlcafnnhpfpaaaWSized
namespace Go.Proofs.Ytmlcafnnhpfpaaa.bloomKeeps
open Go.ChangeShapes Go.WideShapes Go.ChangeAt Go.RowKit Go.Proofs.YtmlcafnnhpfpaaaW.PrintWords Go.Proofs.Ytmlcafnnhpfpaaa.Open Go.Proofs.Ytmlcafnnhpfpaaa.PBloomKeeps
open Go.ChangeMaps (open_string shut_string)
set_option linter.unusedVariables false
set_option linter.unusedSimpArgs false
theorem own : ownKnob Try.prog.godebug = none := by kernel_rfl
theorem laidOut : laidOutB Try.prog = true := by kernel_rfl
set_option maxRecDepth 100000 in
theorem lifted (os : Os) (started : os.Started) (H : Type) (enc : TypeId × Value → H) :
    ReturnsInHanded {} Try.checked os 8 .any (Rows.bloomKeepsSpec.pre6 enc Try.prog Try.f8 Rows.bloomKeepsRow.domain false) (Rows.bloomKeepsSpec.post enc Try.prog Try.f8 false true false false) := by
  refine returnsInHanded_of_change_sized (C := Try.checked) own started (by kernel_rfl) Try.func8
    (ChangeSpec.witness6 (enc := enc) (C := Try.checked) false ⟨#[], #[.int .u64 0, .int .i64 0, .int .i64 0, .slice none 0 0, .slice none 0 0], []⟩ 8 (by kernel_rfl) (by kernel_rfl) (by kernel_rfl) (by kernel_rfl)) ?_
  intro W base args ds gs before hval0 hW hcnd hsz0 _
  have hsz : (DataW.weightsEach Try.prog (Try.f8.params.toList ++ Rows.bloomKeepsSpec.plain.varTypes Try.prog) (ds ++ gs)).all (· ≤ reachBytes) = true := hsz0
  have hval : ∀ (j : Nat) t v, Try.f8.params[j]? = some t → args[j]? = some v → Value.okWide Try.prog W .any base t v := hval0
  have hW' := hW
  obtain ⟨p, q, hA0, hV, rfl, hfz, hnd⟩ := hW
  have hA : DataW.TrodAll enc Try.prog W 0 (fun _ => true) true Try.f8.params.toList args.toList ds p := hA0
  rw [Try.params8] at hA hval hsz
  obtain ⟨v0, vs0, d0, ds0, p0, q0, hargs, rfl, rfl, h0, r0⟩ := trodAll_cons hA
  obtain ⟨v1, vs1, d1, ds1, p1, q1, rfl, rfl, rfl, h1, r1⟩ := trodAll_cons r0
  obtain ⟨v2, vs2, d2, ds2, p2, q2, rfl, rfl, rfl, h2, r2⟩ := trodAll_cons r1
  obtain ⟨v3, vs3, d3, ds3, p3, q3, rfl, rfl, rfl, h3, r3⟩ := trodAll_cons r2
  obtain ⟨v4, vs4, d4, ds4, p4, q4, rfl, rfl, rfl, h4, r4⟩ := trodAll_cons r3
  obtain ⟨rfl, rfl, rfl⟩ := trodAll_nil r4
  obtain rfl : args = #[v0, v1, v2, v3, v4] := by cases args; simp_all
  obtain ⟨rfl, rfl⟩ := trodVars_none hV
  obtain ⟨a0, rfl, rfl, rfl, w0⟩ := open_int Try.underlying22 (hval 0 22 v0 rfl rfl) h0
  obtain ⟨a1, rfl, rfl, rfl, w1⟩ := open_int Try.underlying3 (hval 1 3 v1 rfl rfl) h1
  obtain ⟨a2, rfl, rfl, rfl, w2⟩ := open_int Try.underlying3 (hval 2 3 v2 rfl rfl) h2
  have k3 := h3
  have lt3 : ∀ x ∈ p3, x.block < W.heap.size := by obtain ⟨m, hm⟩ := k3; exact DataW.trod_lt m _ _ _ hm
  obtain ⟨l3, hK3, w3⟩ : ∃ l, ((Kd.slice 9 Kd.string)).K W l v3.cells.toList ∧ (l.length ≤ maxLen ∧ ∀ y0 ∈ l, y0.size ≤ maxLen) := by
    obtain ⟨fuel, hf⟩ := h3
    exact (opens_slice Try.underlying46 (by kernel_rfl) (opens_string Try.underlying9)) fuel _ _ hf
  obtain ⟨A3_, n3_, c3_, rfl⟩ := okWide_slice Try.underlying46 (hval 3 46 v3 rfl rfl)
  obtain ⟨A3, c3, e3_, hc3, hr3⟩ := hK3
  obtain ⟨rfl, rfl, rfl⟩ : A3_ = A3 ∧ n3_ = l3.length ∧ c3_ = c3 := by simpa [Value.cells] using e3_
  have k4 := h4
  have lt4 : ∀ x ∈ p4, x.block < W.heap.size := by obtain ⟨m, hm⟩ := k4; exact DataW.trod_lt m _ _ _ hm
  obtain ⟨l4, hK4, w4⟩ : ∃ l, ((Kd.slice 9 Kd.string)).K W l v4.cells.toList ∧ (l.length ≤ maxLen ∧ ∀ y0 ∈ l, y0.size ≤ maxLen) := by
    obtain ⟨fuel, hf⟩ := h4
    exact (opens_slice Try.underlying46 (by kernel_rfl) (opens_string Try.underlying9)) fuel _ _ hf
  obtain ⟨A4_, n4_, c4_, rfl⟩ := okWide_slice Try.underlying46 (hval 4 46 v4 rfl rfl)
  obtain ⟨A4, c4, e4_, hc4, hr4⟩ := hK4
  obtain ⟨rfl, rfl, rfl⟩ : A4_ = A4 ∧ n4_ = l4.length ∧ c4_ = c4 := by simpa [Value.cells] using e4_
  clear hA0 hval0 hsz0 hsz
  obtain ⟨k, hk⟩ := Pure.BloomKeeps a0 a1 a2 l3 l4 w0 w1 w2 w3 w4
  refine (rillmeterlaw10_BloomKeeps.calls (k := k) (a0 := a0) (a1 := a1) (a2 := a2) (l3 := l3) (A3 := _) (c3 := _) (P3_ := _) (hs3 := (Kd.V_mk hc3 (Kd.C_F (by repeat (first | exact Kd.heap_int _ | exact Kd.heap_bool | exact Kd.heap_string | refine Kd.heap_slice _ ?_)) hr3))) (l4 := l4) (A4 := _) (c4 := _) (P4_ := _) (hs4 := (Kd.V_mk hc4 (Kd.C_F (by repeat (first | exact Kd.heap_int _ | exact Kd.heap_bool | exact Kd.heap_string | refine Kd.heap_slice _ ?_)) hr4))) (r := true) (w := W) (h := hk) (hrt := ⟨rfl⟩)).mono fun e W' ⟨he, bel⟩ => ?_
  subst he
  exact ⟨_, rfl, _, _, _, [], _, [], hW', trodAll_mk1 (shut_bool Try.underlying4 _), (trodAll_cons_mk (shut_int Try.underlying22 w0) (trodAll_cons_mk (shut_int Try.underlying3 w1) (trodAll_cons_mk (shut_int Try.underlying3 w2) (trodAll_cons_mk (Below.trod laidOut (by kernel_rfl) (of_decide_eq_true (by kernel_rfl)) k3 bel lt3) (trodAll_cons_mk (Below.trod laidOut (by kernel_rfl) (of_decide_eq_true (by kernel_rfl)) k4 bel lt4) trodAll_mk0))))), rfl, bel.frame _, fun h => by cases h⟩
theorem over : Rows.bloomKeepsRow.holds Try.pinned (OpenSpec.ofChange Rows.bloomKeepsSpec) :=
  OpenClaim.holds_of_wide 8 Try.f8 rfl rfl rfl rfl rfl rfl rfl ⟨rfl, rfl, rfl, rfl, rfl⟩ rfl rfl rfl rfl rfl (by kernel_rfl) Try.func8 (by kernel_rfl)
    (of_decide_eq_true (by kernel_rfl)) (by unfold Func.isWrapper; first | (rw [if_pos (by decide +kernel)]; kernel_rfl) | (rw [if_neg (by decide +kernel)]; exact ⟨rfl, rfl⟩))
    (fun os started H enc _ => lifted os started H enc)
theorem proved : Rows.BloomKeepsSaid := over
end Go.Proofs.Ytmlcafnnhpfpaaa.bloomKeeps
namespace Go.Proofs.Ytmlcafnnhpfpaaa
/-- The row, under a short name, for the claim. -/
theorem bloomKeeps_holds : Rows.BloomKeepsSaid := bloomKeeps.proved
end Go.Proofs.Ytmlcafnnhpfpaaa
