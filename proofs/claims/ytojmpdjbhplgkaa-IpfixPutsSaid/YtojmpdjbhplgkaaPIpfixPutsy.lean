/- The one pure statement of the law IpfixPuts, and how its arguments are opened. No condition. -/
import Derived.Test.YtojmpdjbhplgkaaPIpfixPutsx15
import Derived.Test.YtojmpdjbhplgkaaOpenZ
import Derived.KernelRfl
namespace Go.Proofs.Ytojmpdjbhplgkaa.PIpfixPuts
open Go Go.RowKit Go.Proofs.YtojmpdjbhplgkaaW.PrintWords Go.Proofs.Ytojmpdjbhplgkaa.OpenZ
open Go.Proofs.Ytojmpdjbhplgkaa.Open (list_2 list_3)
def rillmeterlaw22_IpfixPuts.Pure : Prop := ∀ (a0_0 : Int) (a0_1 : Int) (a0_2 : Int) (l0_3 : List S29), (Lit.int .i64 a0_0).wf = true → (Lit.int .i64 a0_1).wf = true → (Lit.int .i64 a0_2).wf = true → (l0_3.length * 48 ≤ 140737488351232 ∧ ∀ y0 ∈ l0_3, ((Lit.int .i64 y0.f0).wf = true ∧ (y0.f1.length * 32 ≤ 140737488351232 ∧ ∀ y1 ∈ y0.f1, ((Lit.int .i64 y1.f0).wf = true ∧ (y1.f1.length * 24 ≤ 140737488351232 ∧ ∀ y2 ∈ y1.f1, ((Lit.int .i64 y2.f0).wf = true ∧ (Lit.int .i64 y2.f1).wf = true ∧ (Lit.int .i64 y2.f2).wf = true)))) ∧ y0.f2.size ≤ 140737488351232)) → ∃ k, rillmeterlaw22_IpfixPuts.f k a0_0 a0_1 a0_2 l0_3 = some true
theorem opens_T82 {H : Type} {enc : TypeId × Value → H} {W : World} : Opens enc Try.prog W 82 k82 (fun x => ((Lit.int .i64 x.f0).wf = true ∧ (Lit.int .i64 x.f1).wf = true ∧ (Lit.int .i64 x.f2).wf = true)) := by
  intro fuel cs x h
  obtain ⟨hl, n, hf⟩ := fields_of Try.underlying82 h
  obtain ⟨c0, c1, c2, rfl⟩ := list_3 (hl.trans (by kernel_rfl : Try.prog.cellsOf 82 = 3))
  obtain ⟨z0, e0⟩ := field_at hf 0 rfl (ty := 3) (off := 0) (sz := 1) rfl rfl (by kernel_rfl)
  obtain ⟨y0, k0_, o0⟩ := (opens_int Try.underlying3) n _ _ e0
  obtain ⟨z1, e1⟩ := field_at hf 1 rfl (ty := 3) (off := 1) (sz := 1) rfl rfl (by kernel_rfl)
  obtain ⟨y1, k1_, o1⟩ := (opens_int Try.underlying3) n _ _ e1
  obtain ⟨z2, e2⟩ := field_at hf 2 rfl (ty := 3) (off := 2) (sz := 1) rfl rfl (by kernel_rfl)
  obtain ⟨y2, k2_, o2⟩ := (opens_int Try.underlying3) n _ _ e2
  exact ⟨⟨y0, y1, y2⟩, ⟨_, _, rfl, k0_, ⟨_, _, rfl, k1_, k2_⟩⟩, ⟨o0, o1, o2⟩⟩
theorem opens_T37 {H : Type} {enc : TypeId × Value → H} {W : World} : Opens enc Try.prog W 37 k37 (fun x => ((Lit.int .i64 x.f0).wf = true ∧ (x.f1.length * 24 ≤ 140737488351232 ∧ ∀ y0 ∈ x.f1, ((Lit.int .i64 y0.f0).wf = true ∧ (Lit.int .i64 y0.f1).wf = true ∧ (Lit.int .i64 y0.f2).wf = true)))) := by
  intro fuel cs x h
  obtain ⟨hl, n, hf⟩ := fields_of Try.underlying37 h
  obtain ⟨c0, c1, rfl⟩ := list_2 (hl.trans (by kernel_rfl : Try.prog.cellsOf 37 = 2))
  obtain ⟨z0, e0⟩ := field_at hf 0 rfl (ty := 3) (off := 0) (sz := 1) rfl rfl (by kernel_rfl)
  obtain ⟨y0, k0_, o0⟩ := (opens_int Try.underlying3) n _ _ e0
  obtain ⟨z1, e1⟩ := field_at hf 1 rfl (ty := 35) (off := 1) (sz := 1) rfl rfl (by kernel_rfl)
  obtain ⟨y1, k1_, o1⟩ := (opens_slice Try.underlying35 (by kernel_rfl) (B := 24) (by kernel_rfl) opens_T82) n _ _ e1
  exact ⟨⟨y0, y1⟩, ⟨_, _, rfl, k0_, k1_⟩, ⟨o0, o1⟩⟩
theorem opens_T29 {H : Type} {enc : TypeId × Value → H} {W : World} : Opens enc Try.prog W 29 k29 (fun x => ((Lit.int .i64 x.f0).wf = true ∧ (x.f1.length * 32 ≤ 140737488351232 ∧ ∀ y0 ∈ x.f1, ((Lit.int .i64 y0.f0).wf = true ∧ (y0.f1.length * 24 ≤ 140737488351232 ∧ ∀ y1 ∈ y0.f1, ((Lit.int .i64 y1.f0).wf = true ∧ (Lit.int .i64 y1.f1).wf = true ∧ (Lit.int .i64 y1.f2).wf = true)))) ∧ x.f2.size ≤ 140737488351232)) := by
  intro fuel cs x h
  obtain ⟨hl, n, hf⟩ := fields_of Try.underlying29 h
  obtain ⟨c0, c1, c2, rfl⟩ := list_3 (hl.trans (by kernel_rfl : Try.prog.cellsOf 29 = 3))
  obtain ⟨z0, e0⟩ := field_at hf 0 rfl (ty := 3) (off := 0) (sz := 1) rfl rfl (by kernel_rfl)
  obtain ⟨y0, k0_, o0⟩ := (opens_int Try.underlying3) n _ _ e0
  obtain ⟨z1, e1⟩ := field_at hf 1 rfl (ty := 27) (off := 1) (sz := 1) rfl rfl (by kernel_rfl)
  obtain ⟨y1, k1_, o1⟩ := (opens_slice Try.underlying27 (by kernel_rfl) (B := 32) (by kernel_rfl) opens_T37) n _ _ e1
  obtain ⟨z2, e2⟩ := field_at hf 2 rfl (ty := 9) (off := 2) (sz := 1) rfl rfl (by kernel_rfl)
  obtain ⟨y2, k2_, o2⟩ := (opens_string Try.underlying9) n _ _ e2
  exact ⟨⟨y0, y1, y2⟩, ⟨_, _, rfl, k0_, ⟨_, _, rfl, k1_, k2_⟩⟩, ⟨o0, o1, o2⟩⟩
end Go.Proofs.Ytojmpdjbhplgkaa.PIpfixPuts
