/- The one pure statement of the law IpfixRecords, and how its arguments are opened. No condition. -/
import Derived.Test.YtojmpdjbhplgkaaPIpfixRecordsx9
import Derived.Test.YtojmpdjbhplgkaaOpen
import Derived.KernelRfl
namespace Go.Proofs.Ytojmpdjbhplgkaa.PIpfixRecords
open Go Go.RowKit Go.Proofs.YtojmpdjbhplgkaaW.PrintWords Go.Proofs.Ytojmpdjbhplgkaa.Open
def rillmeterlaw22_IpfixRecords.Pure : Prop := ∀ (a0_0 : Int) (l0_1 : List S82) (l1 : List ByteArray) (a2 : ByteArray), (Lit.int .i64 a0_0).wf = true → (l0_1.length ≤ maxLen ∧ ∀ y0 ∈ l0_1, ((Lit.int .i64 y0.f0).wf = true ∧ (Lit.int .i64 y0.f1).wf = true ∧ (Lit.int .i64 y0.f2).wf = true)) → (l1.length ≤ maxLen ∧ ∀ y0 ∈ l1, y0.size ≤ maxLen) → a2.size ≤ 140737488351232 → ∃ k, rillmeterlaw22_IpfixRecords.f k a0_0 l0_1 l1 a2 = some true
theorem opens_T82 {H : Type} {enc : TypeId × Value → H} {W : World} : Opens enc Try.prog W 82 k82 (fun x => ((Lit.int .i64 x.f0).wf = true ∧ (Lit.int .i64 x.f1).wf = true ∧ (Lit.int .i64 x.f2).wf = true)) := by
  intro fuel cs x h
  obtain ⟨hl, n, hf⟩ := fields_of Try.underlying82 h
  obtain ⟨c0, c1, c2, rfl⟩ := list_3 (hl.trans (by kernel_rfl : Try.prog.cellsOf 82 = 3))
  obtain ⟨z0, e0⟩ := field_at hf 0 rfl (ty := 3) (off := 0) (sz := 1) rfl rfl (by kernel_rfl)
  obtain ⟨y0, k0_, o0⟩ := (opens_int Try.underlying3) n _ _ e0
  obtain ⟨z1, e1⟩ := field_at hf 1 rfl (ty := 3) (off := 1) (sz := 1) rfl rfl (by kernel_rfl)
  obtain ⟨y1, k1_, o1⟩ := (opens_int Try.underlying3) n _ _ e1
  obtain ⟨z2, e2⟩ := field_at hf 2 rfl (ty := 3) (off := 2) (sz := 1) rfl rfl (by kernel_rfl)
  obtain ⟨y2, k2_, o2⟩ := (opens_int Try.underlying3) n _ _ e2
  exact ⟨⟨y0, y1, y2⟩, ⟨_, _, rfl, k0_, ⟨_, _, rfl, k1_, k2_⟩⟩, ⟨o0, o1, o2⟩⟩
end Go.Proofs.Ytojmpdjbhplgkaa.PIpfixRecords
