/- The functions that a law uses, each as a plain function, with the proof that a call of the Go function comes to its answer. Condition of each: the arguments read as the data that it names, and the plain function has an answer. Written by a program of this session (standin.py). -/
import Derived.Test.YtoplnkbhgpamaaaPSolveSumsx0
namespace Go.Proofs.Ytoplnkbhgpamaaa.PSolveSums
open Go.RowKit Go.Proofs.YtoplnkbhgpamaaaW.PrintWords Go.Proofs.YtoplnkbhgpamaaaW.PrintLast Go.Proofs.YtoplnkbhgpamaaaW.PrintMore
attribute [local go_sem] max2_int min2_int max_two min_two max_three min_three max_four min_four   -- for this text's walks alone
set_option linter.unusedVariables false
set_option linter.unusedSimpArgs false

/-! ### rillmeterref01_Add: function 19 -/
def rillmeterref01_Add.f (a0 : Int) (a1 : Int) : Option (Int) := some (Int.tmod (IntKind.u64.wrap ((Int.tmod a0 2305843009213693951) + (Int.tmod a1 2305843009213693951))) 2305843009213693951)
set_option maxHeartbeats 8000000 in
set_option maxRecDepth 100000 in
theorem rillmeterref01_Add.calls (a0 : Int) (a1 : Int) (r : Int) (w : World) (h : rillmeterref01_Add.f a0 a1 = some r) :
    Calls Try.prog 19 #[.int .u64 a0, .int .u64 a1] w fun e w' => e = .returned (.int .u64 r) ∧ Drawn0 w w' := by
  have H : (some (Int.tmod (IntKind.u64.wrap ((Int.tmod a0 2305843009213693951) + (Int.tmod a1 2305843009213693951))) 2305843009213693951)) = some r := h
  clear h
  obtain rfl := Option.some.inj H
  go_enter Try.func19, Try.ntmps19
  go_wp2
  go_ret
  exact ⟨by first | rfl | (simp; done) | (simp [*]; done), by repeat (first | exact Drawn0.refl _ | apply Drawn0.step)⟩

end Go.Proofs.Ytoplnkbhgpamaaa.PSolveSums
