/- The functions that a law uses, each as a plain function, with the proof that a call of the Go function comes to its answer. Condition of each: the arguments read as the data that it names, and the plain function has an answer. Written by a program of this session (standin.py). -/
import Derived.Test.YtljmjjeghebdpaaPElasticSeenx0
import Derived.Test.YtljmjjeghebdpaaShort
import Derived.Lib.SliceRun
import Derived.Shelf.Abstract
import Derived.Test.YtljmjjeghebdpaaPressMore
namespace Go.Proofs.Ytljmjjeghebdpaa.PElasticSeen
open Go.RowKit Go.Proofs.YtljmjjeghebdpaaW.PrintWords Go.Proofs.YtljmjjeghebdpaaW.PrintLast Go.Proofs.YtljmjjeghebdpaaW.PrintMore Go.Proofs.Ytljmjjeghebdpaa.Short Go.Proofs.Ytljmjjeghebdpaa.Press Go.Proofs.Ytljmjjeghebdpaa.PressMore
attribute [local go_sem] max2_int min2_int max_two min_two max_three min_three max_four min_four   -- for this text's walks alone
set_option linter.unusedVariables false
set_option linter.unusedSimpArgs false

/-! ### field_Of: function 79 -/
def field_Of.f (a0 : Int) : Option (Int) := if (IntKind.u64.wrap ((Go.bits .and .u64 a0 2305843009213693951) + (a0 / 2305843009213693952))) ≥ 2305843009213693951 then (some (IntKind.u64.wrap ((IntKind.u64.wrap ((Go.bits .and .u64 a0 2305843009213693951) + (a0 / 2305843009213693952))) - 2305843009213693951))) else (some (IntKind.u64.wrap ((Go.bits .and .u64 a0 2305843009213693951) + (a0 / 2305843009213693952))))
set_option maxHeartbeats 80000000 in
set_option maxRecDepth 100000 in
theorem field_Of.calls (a0 : Int) (r : Int) (w : World) (h : field_Of.f a0 = some r) :
    Calls Try.prog 79 #[.int .u64 a0] w fun e w' => e = .returned (.int .u64 r) ∧ Drawn0 w w' := by
 have H : (if (IntKind.u64.wrap ((Go.bits .and .u64 a0 2305843009213693951) + (a0 / 2305843009213693952))) ≥ 2305843009213693951 then (some (IntKind.u64.wrap ((IntKind.u64.wrap ((Go.bits .and .u64 a0 2305843009213693951) + (a0 / 2305843009213693952))) - 2305843009213693951))) else (some (IntKind.u64.wrap ((Go.bits .and .u64 a0 2305843009213693951) + (a0 / 2305843009213693952))))) = some r := h; clear h
 by_cases c2 : (IntKind.u64.wrap ((Go.bits .and .u64 a0 2305843009213693951) + (a0 / 2305843009213693952))) ≥ 2305843009213693951
 ·rw [if_pos c2] at H; have aA : decide (2305843009213693951 ≤ (IntKind.u64.wrap ((Go.bits .and .u64 a0 2305843009213693951) + (a0 / 2305843009213693952)))) = true := decide_eq_true c2; clear c2; obtain rfl := Option.some.inj H
  go_enter Try.func79, Try.ntmps79
  go_wp2
  go_ret; exact ⟨by first | rfl | (simp; done) | (simp [*]; done), by repeat (first | exact Drawn0.refl _ | apply Drawn0.step)⟩
 ·rw [if_neg c2] at H; have aA : decide (2305843009213693951 ≤ (IntKind.u64.wrap ((Go.bits .and .u64 a0 2305843009213693951) + (a0 / 2305843009213693952)))) = false := decide_eq_false c2; clear c2; obtain rfl := Option.some.inj H
  go_enter Try.func79, Try.ntmps79
  go_wp2
  go_ret; exact ⟨by first | rfl | (simp; done) | (simp [*]; done), by repeat (first | exact Drawn0.refl _ | apply Drawn0.step)⟩

/-! ### field_Add: function 67 -/
def field_Add.f (a0 : Int) (a1 : Int) : Option (Int) := (field_Of.f a0).bind fun t110 => ((field_Of.f a1).bind fun t111 => ((field_Of.f (IntKind.u64.wrap (t110 + t111))).bind fun t112 => (some t112)))
set_option maxHeartbeats 80000000 in
set_option maxRecDepth 100000 in
theorem field_Add.calls (a0 : Int) (a1 : Int) (r : Int) (w : World) (h : field_Add.f a0 a1 = some r) :
    Calls Try.prog 67 #[.int .u64 a0, .int .u64 a1] w fun e w' => e = .returned (.int .u64 r) ∧ Drawn0 w w' := by
 have H : ((field_Of.f a0).bind fun aC => ((field_Of.f a1).bind fun aA => ((field_Of.f (IntKind.u64.wrap (aC + aA))).bind fun aB => (some aB)))) = some r := h; clear h; replace H := Option.bind_eq_some_iff.mp H; obtain ⟨aC, aD, H⟩ := H; replace H : ((field_Of.f a1).bind fun aA => ((field_Of.f (IntKind.u64.wrap (aC + aA))).bind fun aB => (some aB))) = some r := H; have A3 := mk_ aD; clear aD; replace H := Option.bind_eq_some_iff.mp H; obtain ⟨aA, aE, H⟩ := H; replace H : ((field_Of.f (IntKind.u64.wrap (aC + aA))).bind fun aB => (some aB)) = some r := H; have A4 := mk_ aE; clear aE; replace H := Option.bind_eq_some_iff.mp H; obtain ⟨aB, aF, H⟩ := H; replace H : (some aB) = some r := H; have A5 := mk_ aF; clear aF; obtain rfl := Option.some.inj H
 go_enter Try.func67, Try.ntmps67
 go_wp2_with (first | ((with_reducible refine gate_callee (f := 79) rfl ?_); refine gs_ (some 6) Try.func79 #[.int .u64 a0] ?_; (with_reducible refine (field_Of.calls a0 aC _ A3.out).mono ?_); rintro e w' ⟨rfl, ⟨nd, rfl⟩⟩; refine ⟨_, rfl, ?_⟩) | ((with_reducible refine gate_callee (f := 79) rfl ?_); refine gs_ (some 8) Try.func79 #[.int .u64 a1] ?_; (with_reducible refine (field_Of.calls a1 aA _ A4.out).mono ?_); rintro e w' ⟨rfl, ⟨nd, rfl⟩⟩; refine ⟨_, rfl, ?_⟩) | ((with_reducible refine gate_callee (f := 79) rfl ?_); refine gs_ (some 10) Try.func79 #[.int .u64 (IntKind.u64.wrap (aC + aA))] ?_; (with_reducible refine (field_Of.calls (IntKind.u64.wrap (aC + aA)) aB _ A5.out).mono ?_); rintro e w' ⟨rfl, ⟨nd, rfl⟩⟩; refine ⟨_, rfl, ?_⟩))
 go_ret; exact ⟨by first | rfl | (simp; done) | (simp [*]; done), by repeat (first | exact Drawn0.refl _ | apply Drawn0.step)⟩

/-! ### bits_Mul64: function 80 -/
def bits_Mul64.f (a0 : Int) (a1 : Int) : Option (Int × Int) := some (IntKind.u64.wrap ((IntKind.u64.wrap ((IntKind.u64.wrap ((a0 / 4294967296) * (a1 / 4294967296))) + ((IntKind.u64.wrap ((IntKind.u64.wrap ((a0 / 4294967296) * (Go.bits .and .u64 a1 4294967295))) + ((IntKind.u64.wrap ((Go.bits .and .u64 a0 4294967295) * (Go.bits .and .u64 a1 4294967295))) / 4294967296))) / 4294967296))) + ((IntKind.u64.wrap ((Go.bits .and .u64 (IntKind.u64.wrap ((IntKind.u64.wrap ((a0 / 4294967296) * (Go.bits .and .u64 a1 4294967295))) + ((IntKind.u64.wrap ((Go.bits .and .u64 a0 4294967295) * (Go.bits .and .u64 a1 4294967295))) / 4294967296))) 4294967295) + (IntKind.u64.wrap ((Go.bits .and .u64 a0 4294967295) * (a1 / 4294967296))))) / 4294967296)), IntKind.u64.wrap (a0 * a1))
set_option maxHeartbeats 80000000 in
set_option maxRecDepth 100000 in
theorem bits_Mul64.calls (a0 : Int) (a1 : Int) (r1 : Int) (r2 : Int) (w : World) (h : bits_Mul64.f a0 a1 = some (r1, r2)) :
    Calls Try.prog 80 #[.int .u64 a0, .int .u64 a1] w fun e w' => e = .returned (.tuple #[.int .u64 r1, .int .u64 r2]) ∧ Drawn0 w w' := by
 have H : (some (IntKind.u64.wrap ((IntKind.u64.wrap ((IntKind.u64.wrap ((a0 / 4294967296) * (a1 / 4294967296))) + ((IntKind.u64.wrap ((IntKind.u64.wrap ((a0 / 4294967296) * (Go.bits .and .u64 a1 4294967295))) + ((IntKind.u64.wrap ((Go.bits .and .u64 a0 4294967295) * (Go.bits .and .u64 a1 4294967295))) / 4294967296))) / 4294967296))) + ((IntKind.u64.wrap ((Go.bits .and .u64 (IntKind.u64.wrap ((IntKind.u64.wrap ((a0 / 4294967296) * (Go.bits .and .u64 a1 4294967295))) + ((IntKind.u64.wrap ((Go.bits .and .u64 a0 4294967295) * (Go.bits .and .u64 a1 4294967295))) / 4294967296))) 4294967295) + (IntKind.u64.wrap ((Go.bits .and .u64 a0 4294967295) * (a1 / 4294967296))))) / 4294967296)), IntKind.u64.wrap (a0 * a1))) = some (r1, r2) := h; clear h; simp only [Option.some.injEq, Prod.mk.injEq] at H; obtain ⟨rfl, rfl⟩ := H
 go_enter Try.func80, Try.ntmps80
 go_wp2
 go_ret2
 exact ⟨by first | rfl | (simp; done) | (simp [*]; done), by repeat (first | exact Drawn0.refl _ | apply Drawn0.step)⟩

/-! ### field_Mul: function 68 -/
def field_Mul.f (a0 : Int) (a1 : Int) : Option (Int) := (field_Of.f a0).bind fun t113 => ((field_Of.f a1).bind fun t114 => ((bits_Mul64.f t113 t114).bind fun bt115 => ((field_Of.f (IntKind.u64.wrap ((Go.bits .and .u64 bt115.2 2305843009213693951) + (Go.bits .or .u64 (bt115.2 / 2305843009213693952) (IntKind.u64.wrap (bt115.1 * 8)))))).bind fun t117 => (some t117))))
set_option maxHeartbeats 80000000 in
set_option maxRecDepth 100000 in
theorem field_Mul.calls (a0 : Int) (a1 : Int) (r : Int) (w : World) (h : field_Mul.f a0 a1 = some r) :
    Calls Try.prog 68 #[.int .u64 a0, .int .u64 a1] w fun e w' => e = .returned (.int .u64 r) ∧ Drawn0 w w' := by
 have H : ((field_Of.f a0).bind fun aC => ((field_Of.f a1).bind fun aB => ((bits_Mul64.f aC aB).bind fun bt115 => ((field_Of.f (IntKind.u64.wrap ((Go.bits .and .u64 bt115.2 2305843009213693951) + (Go.bits .or .u64 (bt115.2 / 2305843009213693952) (IntKind.u64.wrap (bt115.1 * 8)))))).bind fun aA => (some aA))))) = some r := h; clear h; replace H := Option.bind_eq_some_iff.mp H; obtain ⟨aC, aF, H⟩ := H; replace H : ((field_Of.f a1).bind fun aB => ((bits_Mul64.f aC aB).bind fun bt115 => ((field_Of.f (IntKind.u64.wrap ((Go.bits .and .u64 bt115.2 2305843009213693951) + (Go.bits .or .u64 (bt115.2 / 2305843009213693952) (IntKind.u64.wrap (bt115.1 * 8)))))).bind fun aA => (some aA)))) = some r := H; have A3 := mk_ aF; clear aF; replace H := Option.bind_eq_some_iff.mp H; obtain ⟨aB, aG, H⟩ := H; replace H : ((bits_Mul64.f aC aB).bind fun bt115 => ((field_Of.f (IntKind.u64.wrap ((Go.bits .and .u64 bt115.2 2305843009213693951) + (Go.bits .or .u64 (bt115.2 / 2305843009213693952) (IntKind.u64.wrap (bt115.1 * 8)))))).bind fun aA => (some aA))) = some r := H; have A4 := mk_ aG; clear aG; replace H := Option.bind_eq_some_iff.mp H; obtain ⟨⟨aE, aD⟩, aH, H⟩ := H; replace H : ((field_Of.f (IntKind.u64.wrap ((Go.bits .and .u64 aD 2305843009213693951) + (Go.bits .or .u64 (aD / 2305843009213693952) (IntKind.u64.wrap (aE * 8)))))).bind fun aA => (some aA)) = some r := H; have A5 := mk_ aH; clear aH
 replace H := Option.bind_eq_some_iff.mp H; obtain ⟨aA, aI, H⟩ := H; replace H : (some aA) = some r := H; have A6 := mk_ aI; clear aI; obtain rfl := Option.some.inj H
 go_enter Try.func68, Try.ntmps68
 go_wp2_with (first | ((with_reducible refine gate_callee (f := 79) rfl ?_); refine gs_ (some 9) Try.func79 #[.int .u64 a0] ?_; (with_reducible refine (field_Of.calls a0 aC _ A3.out).mono ?_); rintro e w' ⟨rfl, ⟨nd, rfl⟩⟩; refine ⟨_, rfl, ?_⟩) | ((with_reducible refine gate_callee (f := 79) rfl ?_); refine gs_ (some 11) Try.func79 #[.int .u64 a1] ?_; (with_reducible refine (field_Of.calls a1 aB _ A4.out).mono ?_); rintro e w' ⟨rfl, ⟨nd, rfl⟩⟩; refine ⟨_, rfl, ?_⟩) | ((with_reducible refine gate_callee (f := 80) rfl ?_); refine gs_ (some 12) Try.func80 #[.int .u64 aC, .int .u64 aB] ?_; (with_reducible refine (bits_Mul64.calls aC aB aE aD _ A5.out).mono ?_); rintro e w' ⟨rfl, ⟨nd, rfl⟩⟩; refine ⟨_, rfl, ?_⟩) | ((with_reducible refine gate_callee (f := 79) rfl ?_); refine gs_ (some 23) Try.func79 #[.int .u64 (IntKind.u64.wrap ((Go.bits .and .u64 aD 2305843009213693951) + (Go.bits .or .u64 (aD / 2305843009213693952) (IntKind.u64.wrap (aE * 8)))))] ?_; (with_reducible refine (field_Of.calls (IntKind.u64.wrap ((Go.bits .and .u64 aD 2305843009213693951) + (Go.bits .or .u64 (aD / 2305843009213693952) (IntKind.u64.wrap (aE * 8))))) aA _ A6.out).mono ?_); rintro e w' ⟨rfl, ⟨nd, rfl⟩⟩; refine ⟨_, rfl, ?_⟩))
 go_ret; exact ⟨by first | rfl | (simp; done) | (simp [*]; done), by repeat (first | exact Drawn0.refl _ | apply Drawn0.step)⟩

/-! ### hash_Row: function 43 -/
def hash_Row.f (a0 : Int) (a1 : Int) : Option (Int) := (field_Add.f a0 3).bind fun t118 => ((field_Add.f (IntKind.u64.wrap (mx a1 0)) 2).bind fun t119 => ((field_Mul.f t118 t119).bind fun t120 => ((field_Add.f t120 5).bind fun t121 => ((field_Mul.f t121 t121).bind fun t122 => (some t122)))))
set_option maxHeartbeats 80000000 in
set_option maxRecDepth 100000 in
theorem hash_Row.calls (a0 : Int) (a1 : Int) (r : Int) (w : World) (h : hash_Row.f a0 a1 = some r) :
    Calls Try.prog 43 #[.int .u64 a0, .int .i64 a1] w fun e w' => e = .returned (.int .u64 r) ∧ Below w.heap.size w w' := by
 have HB := mk_ (Below.refl w.heap.size w); have H : ((field_Add.f a0 3).bind fun aE => ((field_Add.f (IntKind.u64.wrap (mx a1 0)) 2).bind fun aD => ((field_Mul.f aE aD).bind fun aC => ((field_Add.f aC 5).bind fun aA => ((field_Mul.f aA aA).bind fun aB => (some aB)))))) = some r := h; clear h; replace H := Option.bind_eq_some_iff.mp H; obtain ⟨aE, aF, H⟩ := H; replace H : ((field_Add.f (IntKind.u64.wrap (mx a1 0)) 2).bind fun aD => ((field_Mul.f aE aD).bind fun aC => ((field_Add.f aC 5).bind fun aA => ((field_Mul.f aA aA).bind fun aB => (some aB))))) = some r := H; have A3 := mk_ aF; clear aF; obtain ⟨ji4, hji4⟩ : ∃ j_ : Int, (mx a1 0) = j_ := ⟨_, rfl⟩
 replace H : ((field_Add.f (IntKind.u64.wrap (ji4)) 2).bind fun aD => ((field_Mul.f aE aD).bind fun aC => ((field_Add.f aC 5).bind fun aA => ((field_Mul.f aA aA).bind fun aB => (some aB))))) = some r := by first | (rw [hji4] at H; exact H) | (simp only [hji4] at H ⊢; exact H)
 (try rw [hji4] at A3); (try (have hji4l : 0 ≤ ji4 := by (rw [← hji4]; unfold mx; (repeat' split) <;> omega))); (try (have hji4m : 0 ≤ ji4 := by omega)); have hji4_ : (if a1 < 0 then 0 else a1) = ji4 := hji4; replace H := Option.bind_eq_some_iff.mp H; obtain ⟨aD, aG, H⟩ := H; replace H : ((field_Mul.f aE aD).bind fun aC => ((field_Add.f aC 5).bind fun aA => ((field_Mul.f aA aA).bind fun aB => (some aB)))) = some r := H; have A5 := mk_ aG; clear aG; replace H := Option.bind_eq_some_iff.mp H; obtain ⟨aC, aH, H⟩ := H; replace H : ((field_Add.f aC 5).bind fun aA => ((field_Mul.f aA aA).bind fun aB => (some aB))) = some r := H; have A6 := mk_ aH; clear aH; replace H := Option.bind_eq_some_iff.mp H; obtain ⟨aA, aI, H⟩ := H; replace H : ((field_Mul.f aA aA).bind fun aB => (some aB)) = some r := H; have A7 := mk_ aI; clear aI; replace H := Option.bind_eq_some_iff.mp H; obtain ⟨aB, aJ, H⟩ := H; replace H : (some aB) = some r := H; have A8 := mk_ aJ; clear aJ; obtain rfl := Option.some.inj H
 go_enter Try.func43, Try.ntmps43
 go_wp2_with (first | ((with_reducible refine gate_callee (f := 67) rfl ?_); refine gs_ (some 7) Try.func67 #[.int .u64 a0, .int .u64 3] ?_; (with_reducible refine (field_Add.calls a0 3 aE _ A3.out).mono ?_); rintro e w' ⟨rfl, ⟨nd, rfl⟩⟩; refine ⟨_, rfl, ?_⟩) | ((with_reducible refine gate_callee (f := 67) rfl ?_); refine gs_ (some 11) Try.func67 #[.int .u64 (IntKind.u64.wrap (ji4)), .int .u64 2] ?_ (hargs := by (try simp only [List.map_toArray, List.map_cons, List.map_nil]); first | (simp only [hji4]; rfl) | rfl); (with_reducible refine (field_Add.calls (IntKind.u64.wrap (ji4)) 2 aD _ A5.out).mono ?_); rintro e w' ⟨rfl, ⟨nd, rfl⟩⟩; refine ⟨_, rfl, ?_⟩) | ((with_reducible refine gate_callee (f := 68) rfl ?_); refine gs_ (some 12) Try.func68 #[.int .u64 aE, .int .u64 aD] ?_; (with_reducible refine (field_Mul.calls aE aD aC _ A6.out).mono ?_); rintro e w' ⟨rfl, ⟨nd, rfl⟩⟩; refine ⟨_, rfl, ?_⟩) | ((with_reducible refine gate_callee (f := 67) rfl ?_); refine gs_ (some 13) Try.func67 #[.int .u64 aC, .int .u64 5] ?_; (with_reducible refine (field_Add.calls aC 5 aA _ A7.out).mono ?_); rintro e w' ⟨rfl, ⟨nd, rfl⟩⟩; refine ⟨_, rfl, ?_⟩) | ((with_reducible refine gate_callee (f := 68) rfl ?_); refine gs_ (some 16) Try.func68 #[.int .u64 aA, .int .u64 aA] ?_; (with_reducible refine (field_Mul.calls aA aA aB _ A8.out).mono ?_); rintro e w' ⟨rfl, ⟨nd, rfl⟩⟩; refine ⟨_, rfl, ?_⟩))
 go_ret; exact ⟨by first | rfl | (simp [errW_none, errW_some] <;> rfl) | (simp only [← hji4]; first | rfl | (simp [errW_none, errW_some] <;> rfl)) | (simp [*, errW_none, errW_some] <;> rfl), bl_ HB⟩

-- NOT PRINTED: function 56 (elastic_Entry_56)

/-! ### elastic_find: function 30 -/
/-- the place of a key among entries, counted from i; -1: it is not there -/
def elastic_find.go (key : ByteArray) : List S76 → Nat → Int
  | [], _ => -1
  | y :: l, i => if y.f0.toList = key.toList then (i : Int) else elastic_find.go key l (i + 1)

def elastic_find.f (l0_0 : List (S76)) (a0_1 : Int) (a1 : ByteArray) : Option (Int) := if l0_0.length ≤ 9223372036854775807 then some (elastic_find.go a1 l0_0 0) else none

/-- the literal's own walk -/
theorem elastic_find.lit (y : S76) (B : Nat) (key : ByteArray) (b : Bool) (w : World) (hbox : w.heap[B]? = some (.cells #[.string key] 9 (0, 0))) (hb : b = decide (y.f0.toList = key.toList)) :
    Calls Try.prog 57 #[.agg #[.string y.f0, .int .i64 y.f1, .bool y.f2], .pointer (some ⟨B, 0, none⟩)] w fun e w' => e = .returned (.bool b) ∧ Below w.heap.size w w' := by
  have hu_ := Try.underlying76
  have hu9_ := Try.underlying9
  have HB := Aside0.mk (Below.refl w.heap.size w)
  have hc : w.cell? ⟨B, 0, none⟩ = some (.string key) := (blk_cell hbox 0).trans rfl
  have hlt := blk_lt hbox
  clear hbox
  obtain ⟨f0, f1, f2⟩ := y
  simp only at hb
  have e_ : (f0.toList == key.toList) = b := by rw [hb]; by_cases h : f0.toList = key.toList <;> simp [h]
  have d_ : decide (f0.toList = key.toList) = b := hb.symm
  clear hb
  go_enter Try.func57, Try.ntmps57
  go_wp2_with (first | ((with_reducible refine gate_dst (N := 2) rfl ?_); refine box_event ?hg (N := 2) ?hd (cs := #[.string f0, .int .i64 f1, .bool f2]) (t := 76) ?hr ?_; (case hd => rfl); (case hg => rfl); (case hr => first | (go_simp; done) | (go_simp; rfl)); intro gb hg w2 hbox hb; have n0_ := Aside0.mk (below_step (bl_ HB) hb); have BK := Aside0.mk hbox; have hcz_0 : w2.cell? ⟨gb, 0, none⟩ = some (.string f0) := (blk_cell BK.out 0).trans rfl; have hcz_1 : w2.cell? ⟨gb, 1, none⟩ = some (.int .i64 f1) := (blk_cell BK.out 1).trans rfl; have hcz_2 : w2.cell? ⟨gb, 2, none⟩ = some (.bool f2) := (blk_cell BK.out 2).trans rfl; have hfz_0 := blk_frozen BK.out 0; have hky : w2.cell? ⟨B, 0, none⟩ = some (.string key) := (n0_.out.cell hlt).trans hc; clear HB; have HB := n0_; clear n0_; clear hb hbox hg))
  go_ret
  exact ⟨by first | rfl | (simp; done) | (simp [*]; done), bl_ HB⟩

theorem elastic_find.drop_cons (l : List S76) (k : Nat) (h : k < l.length) : l.drop k = rd_T76 l (k : Int) :: l.drop (k + 1) := by
  rw [List.drop_eq_getElem_cons h]
  simp [rd_T76, List.getD_eq_getElem?_getD, h]

set_option maxHeartbeats 80000000 in
set_option maxRecDepth 100000 in
theorem elastic_find.index (B : Nat) (key : ByteArray) (A : Option Addr) (c : Nat) (l : List S76) (r : Int) (w : World) (hbox : w.heap[B]? = some (.cells #[.string key] 9 (0, 0)))
    (hr : Kd.C k76 w A l.length l) (hlen : l.length ≤ 9223372036854775807) (h : elastic_find.go key l 0 = r) :
    Calls Try.prog 56 #[.slice A l.length c, .func (.func 57) #[] #[.pointer (some ⟨B, 0, none⟩)]] w fun e w' => e = .returned (.int .i64 r) ∧ Below w.heap.size w w' := by
  have HR := Aside0.mk hr
  have HX := Aside0.mk hbox
  have H0 := Aside0.mk h
  clear hr hbox h
  have hu_ := Try.underlying76
  have e31_ : ∀ (args : Array Value) (w : World), (callFunc 57 args).run Try.prog w = .ok (.enter 57 args) w := fun args w => enters_ Try.func57 (by kernel_rfl) rfl args w
  go_enter Try.func56, Try.ntmps56
  go_wp2
  go_loopg [5, 8] l.length (fun gg _ s8 wr => ∃ kk : Nat, kk ≤ l.length ∧ l.length - kk ≤ gg ∧ s8 = .int .i64 kk ∧ Aside0 (Below w.heap.size w wr) ∧ Aside0 (elastic_find.go key (l.drop kk) kk = r))
  case atStart => exact ⟨0, Nat.zero_le _, by omega, rfl, ⟨Below.refl _ w⟩, ⟨by rw [List.drop_zero]; exact H0.out⟩⟩
  case round =>
    obtain ⟨kk, hkk, hg, rfl, BW, HA⟩ := hrel
    by_cases hlt : kk < l.length
    · have h2 := HA.out
      rw [elastic_find.drop_cons l kk hlt, elastic_find.go] at h2
      have hltz : (kk : Int) < (l.length : Int) := by omega
      have hk0 : (0 : Int) ≤ (kk : Int) := by omega
      obtain ⟨ad, e, hx0, hx1, hx2⟩ := at_T76 HR.out (kk : Int) hk0 hltz
      cases e
      have hx0' := (BW.out.cell (World.block_lt_of_cell? w _ hx0)).trans hx0
      have hx1' := (BW.out.cell (World.block_lt_of_cell? w _ hx1)).trans hx1
      have hx2' := (BW.out.cell (World.block_lt_of_cell? w _ hx2)).trans hx2
      clear hx0 hx1 hx2
      simp only [Int.toNat_natCast] at hx0' hx1' hx2'
      obtain ⟨b, hb⟩ : ∃ b, b = decide ((rd_T76 l (kk : Int)).f0.toList = key.toList) := ⟨_, rfl⟩
      have hcall := elastic_find.lit (rd_T76 l (kk : Int)) B key b wr (blk_below HX.out BW.out) hb
      generalize rd_T76 l (kk : Int) = y at *
      cases b with
      | true =>
        rw [if_pos (of_decide_eq_true hb.symm)] at h2
        subst h2
        clear hb
        go_wp2_with (go_at_fn 57; refine hcall.mono ?_; rintro e w' ⟨rfl, hb'⟩)
        go_ret
        exact ⟨rfl, BW.out.trans (hb'.mono BW.out.size)⟩
      | false =>
        rw [if_neg (of_decide_eq_false hb.symm)] at h2
        have H2 := Aside0.mk h2
        clear h2 hb
        go_wp2_with (go_at_fn 57; refine hcall.mono ?_; rintro e w' ⟨rfl, hb'⟩)
        go_roundg (l.length - (kk + 1))
        case measure => omega
        case rel => exact ⟨kk + 1, by omega, by omega, by go_num, ⟨BW.out.trans (hb'.mono BW.out.size)⟩, H2⟩
    · have hltz : ¬ (kk : Int) < (l.length : Int) := by omega
      have : kk = l.length := by omega
      subst this
      have h2 := HA.out
      rw [List.drop_length, elastic_find.go] at h2
      subst h2
      go_wp2
      go_ret
      exact ⟨rfl, BW.out⟩
set_option maxHeartbeats 80000000 in
set_option maxRecDepth 100000 in
theorem elastic_find.calls (A0_0 : Option Addr) (c0_0 : Nat) (l0_0 : List (S76)) (a0_1 : Int) (a1 : ByteArray) (r : Int) (w : World) (hr0_0 : Kd.C k76 w A0_0 l0_0.length l0_0) (hc0_0 : l0_0.length ≤ c0_0) (h : elastic_find.f l0_0 a0_1 a1 = some r) :
    Calls Try.prog 30 #[.agg #[.slice A0_0 l0_0.length c0_0, .int .i64 a0_1], .string a1] w fun e w' => e = .returned (.int .i64 r) ∧ Below w.heap.size w w' := by
 have hu_ := Try.underlying56; have HR := mk_ hr0_0; have HC := mk_ hc0_0; clear hr0_0 hc0_0
 unfold elastic_find.f at h
 split at h
 ·rename_i hlen
  have H := mk_ (Option.some.inj h); clear h; have HB := mk_ (Below.refl w.heap.size w)
  have e24_ : ∀ (args : Array Value) (w : World), (callFunc 56 args).run Try.prog w = .ok (.enter 56 args) w := fun args w => enters_ Try.func56 (by kernel_rfl) rfl args w
  go_enter Try.func30, Try.ntmps30
  go_wp2_with (first | ((with_reducible refine gate_dst (N := 2) rfl ?_); refine box_event ?hg (N := 2) ?hd (cs := #[.slice A0_0 l0_0.length c0_0, .int .i64 a0_1]) (t := 56) ?hr ?_; (case hd => rfl); (case hg => rfl); (case hr => first | (go_simp; done) | (go_simp; rfl)); intro gb hgb w2 hbox hb; have BK := mk_ hbox; replace HB := bs_ HB hb; have hz0 : w2.cell? ⟨gb, 0, none⟩ = some (.slice A0_0 l0_0.length c0_0) := (blk_cell hbox 0).trans rfl; clear hbox hb hgb) | ((with_reducible refine gate_dst (N := 3) rfl ?_); refine box_event ?hg (N := 3) ?hd (cs := #[.string a1]) (t := 9) ?hr ?_; (case hd => rfl); (case hg => rfl); (case hr => first | (go_simp; done) | (go_simp; rfl)); intro gk hgk w3 hbox hb; have aA := mk_ hbox; (try have hz1 : w3.cell? ⟨gb, 0, none⟩ = some (.slice A0_0 l0_0.length c0_0) := (blk_cell (blk_below BK.out hb) 0).trans rfl); replace HB := bs_ HB hb; clear hbox hb hgk) | (go_at_fn 56; refine (elastic_find.index gk a1 A0_0 c0_0 l0_0 r _ (by first | exact aA.out | exact blk_drew aA.out) (by first | exact Kd.C_below HR.out HB.out | exact Kd.C_drew (Kd.C_below HR.out HB.out)) hlen H.out).mono ?_; rintro e w3 ⟨rfl, hb3⟩; have HB3 := mk_ (below_step (bl_ HB) hb3); clear hb3))
  go_ret; exact ⟨rfl, bl_ HB3⟩
 ·cases h

/-! ### elastic_Bucket_right: function 46 -/
def elastic_Bucket_right.l0 : Nat → Int → List (S76) → Int → Int → List (S76) → Int → Option (Bool)
  | 0, _, _, _, _, _, _ => none
  | k + 1, x1, x8, x9, x10, x125000, x125001 => if x10 < x9 then (if 0 ≤ x10 then (if x10 < (x8.length : Int) then (if ((rd_T76 x8 x10).f1) < 1 then (some false) else (if ((rd_T76 x8 x10).f1) > 1099511627776 then (some false) else ((elastic_find.f x125000 x125001 ((rd_T76 x8 x10).f0)).bind fun t127 => (if t127 < x10 then (some false) else (elastic_Bucket_right.l0 k x1 x8 x9 (wrap64 (x10 + 1)) x125000 x125001))))) else (none)) else (none)) else (if (x125000.length : Int) ≤ x1 then (if x125001 ≥ 0 then (some (decide (x125001 ≤ 1099511627776))) else (some false)) else (some false))
def elastic_Bucket_right.f (k : Nat) (l0_0 : List (S76)) (a0_1 : Int) (a1 : Int) : Option (Bool) := elastic_Bucket_right.l0 k a1 l0_0 (l0_0.length : Int) 0 l0_0 a0_1
theorem elastic_Bucket_right.mono_l : ∀ k, (∀ y0 y1 y2 y3 y4 y5, LeO (elastic_Bucket_right.l0 k y0 y1 y2 y3 y4 y5) (elastic_Bucket_right.l0 (k + 1) y0 y1 y2 y3 y4 y5))
  | 0 => fun _ _ _ _ _ _ r h => by simp [elastic_Bucket_right.l0] at h
  | k + 1 => by
    have ih0 := elastic_Bucket_right.mono_l k
    · intro y0 y1 y2 y3 y4 y5
      unfold elastic_Bucket_right.l0
      repeat' first | (with_reducible first | exact ih0 _ _ _ _ _ _ | exact LeO.refl _ | exact LeO.none _ | refine LeO.ite ?_ ?_ | refine LeO.bind ?_ (fun _ => ?_)) | exact ih0 _ _ _ _ _ _ | exact LeO.none _ | refine LeO.ite ?_ ?_ | refine LeO.bind ?_ (fun _ => ?_)
theorem elastic_Bucket_right.mono : ∀ a0 a1 a2 k, LeO (elastic_Bucket_right.f k a0 a1 a2) (elastic_Bucket_right.f (k + 1) a0 a1 a2) := by
  intro a0 a1 a2 k
  have ih0 := elastic_Bucket_right.mono_l k
  unfold elastic_Bucket_right.f
  repeat' first | (with_reducible first | exact ih0 _ _ _ _ _ _ | exact LeO.refl _ | exact LeO.none _ | refine LeO.ite ?_ ?_ | refine LeO.bind ?_ (fun _ => ?_)) | exact ih0 _ _ _ _ _ _ | exact LeO.none _ | refine LeO.ite ?_ ?_ | refine LeO.bind ?_ (fun _ => ?_)
set_option maxHeartbeats 80000000 in
set_option maxRecDepth 100000 in
theorem elastic_Bucket_right.calls (k : Nat) (A0_0 : Option Addr) (c0_0 : Nat) (l0_0 : List (S76)) (a0_1 : Int) (a1 : Int) (r : Bool) (w : World) (hr0_0 : Kd.C k76 w A0_0 l0_0.length l0_0) (hc0_0 : l0_0.length ≤ c0_0) (h : elastic_Bucket_right.f k l0_0 a0_1 a1 = some r) :
    Calls Try.prog 46 #[.agg #[.slice A0_0 l0_0.length c0_0, .int .i64 a0_1], .int .i64 a1] w fun e w' => e = .returned (.bool r) ∧ Below w.heap.size w w' := by
 have hu56 := Try.underlying56; have hu76 := Try.underlying76; have aN := mk_ hr0_0; have aY := mk_ hc0_0; clear hr0_0 hc0_0; have HB := mk_ (Below.refl w.heap.size w); have H : (elastic_Bucket_right.l0 k a1 l0_0 (l0_0.length : Int) 0 l0_0 a0_1) = some r := h; clear h; have H' := mk_ H; clear H
 go_enter Try.func46, Try.ntmps46
 go_wp2_with (first | ((with_reducible refine gate_dst (N := 2) rfl ?_); refine box_event ?hg (N := 2) ?hd (cs := #[.slice A0_0 l0_0.length c0_0, .int .i64 a0_1]) (t := 56) ?hr ?_; (case hd => rfl); (case hg => rfl); (case hr => first | (go_simp; done) | (go_simp; rfl)); intro aE hg w3 hbox hb; have aA := mk_ (hbox); have bM := gx_ hg HB; have bN := gx_ hg HB; replace HB := bs_ HB hb; clear hb hbox hg; obtain ⟨bB, bC⟩ := cz2_ aA; obtain ⟨bD, bE⟩ := fz2_ aA))
 go_loopg [10] k (fun kq bF w' => ∃ (aB : Int), bF = .int .i64 aB ∧ Aside0 (elastic_Bucket_right.l0 kq a1 l0_0 (l0_0.length : Int) aB l0_0 a0_1 = some r) ∧ Aside0 (kq ≤ k) ∧ Aside0 (w'.heap[aE]? = some (.cells #[(.slice A0_0 l0_0.length c0_0), .int .i64 a0_1] 56 (0, 0))) ∧ Aside0 (Below w.heap.size w w'))
 case atStart => exact ⟨(0), (by first | rfl | (simp; done) | (simp [*]; done)), H', ⟨Nat.le_refl _⟩, ⟨bk_ aA⟩, ⟨bl_ HB⟩⟩
 case round =>
  clear H'; (try clear bB); (try clear bC); (try clear bD); (try clear bE); obtain ⟨aB, rfl, HA, HK1, aA, HB⟩ := hrel
  cases gk with
  | zero => exact absurd HA.out (by simp [elastic_Bucket_right.l0])
  | succ k1 =>
   have H := HA.out; clear HA; simp only [elastic_Bucket_right.l0] at H
   by_cases c5 : aB < (l0_0.length : Int)
   ·rw [if_pos c5] at H; have bG : decide (aB < (l0_0.length : Int)) = true := decide_eq_true c5; clear c5
    by_cases c6 : 0 ≤ aB
    ·rw [if_pos c6] at H; have bO : decide (0 ≤ aB) = true := decide_eq_true c6; clear c6
     by_cases c7 : aB < (l0_0.length : Int)
     ·rw [if_pos c7] at H; have bP : decide (aB < (l0_0.length : Int)) = true := decide_eq_true c7; clear c7
      by_cases c8 : ((rd_T76 l0_0 aB).f1) < 1
      ·rw [if_pos c8] at H; have bH : decide (((rd_T76 l0_0 aB).f1) < 1) = true := decide_eq_true c8; clear c8; obtain rfl := Option.some.inj H; have aF : 0 ≤ (aB : Int) := od_; have aG : aB < (l0_0.length : Int) := od_; obtain ⟨aL, e125, aH, aI, aJ⟩ := at_T76 aN.out aB aF aG
       cases e125; (try replace aH := bt_ HB aH); (try replace aI := bt_ HB aI); (try replace aJ := bt_ HB aJ); replace aF := eq_true aF; replace aG := eq_true aG
       go_wp2_with (first | ((with_reducible refine gate_dst (N := 6) rfl ?_); refine box_event ?hg (N := 6) ?hd (cs := #[.string (⟨#[]⟩ : ByteArray), .int .i64 0, .bool false]) (t := 76) ?hr ?_; (case hd => rfl); (case hg => rfl); (case hr => first | (go_simp; done) | (go_simp; rfl)); intro aD hg w9 hbox hb; have aC := mk_ (hbox); have aV := gx_ hg HB; have aW := gx_ hg HB; replace HB := bs_ HB hb; have aK := nx_ hg aA; have aM := ny_ hg aA; replace aA := bb_ aA hb; clear hb hbox hg; have bQ := aM.out; have bR := aK.out; obtain ⟨bS, bT, bU⟩ := cz3_ aC; obtain ⟨bV, bW, bX⟩ := fz3_ aC))
       go_ret; exact ⟨by first | rfl | (simp [*] <;> rfl), bl_ HB⟩
      ·rw [if_neg c8] at H; have bH : decide (((rd_T76 l0_0 aB).f1) < 1) = false := decide_eq_false c8; clear c8
       by_cases aO : ((rd_T76 l0_0 aB).f1) > 1099511627776
       ·rw [if_pos aO] at H; have bI : decide (1099511627776 < ((rd_T76 l0_0 aB).f1)) = true := decide_eq_true aO; clear aO; obtain rfl := Option.some.inj H; have aF : 0 ≤ (aB : Int) := od_; have aG : aB < (l0_0.length : Int) := od_; obtain ⟨aL, e125, aH, aI, aJ⟩ := at_T76 aN.out aB aF aG
        cases e125; (try replace aH := bt_ HB aH); (try replace aI := bt_ HB aI); (try replace aJ := bt_ HB aJ); replace aF := eq_true aF; replace aG := eq_true aG
        go_wp2_with (first | ((with_reducible refine gate_dst (N := 6) rfl ?_); refine box_event ?hg (N := 6) ?hd (cs := #[.string (⟨#[]⟩ : ByteArray), .int .i64 0, .bool false]) (t := 76) ?hr ?_; (case hd => rfl); (case hg => rfl); (case hr => first | (go_simp; done) | (go_simp; rfl)); intro aD hg aX hbox hb; have aC := mk_ (hbox); have aV := gx_ hg HB; have aW := gx_ hg HB; replace HB := bs_ HB hb; have aK := nx_ hg aA; have aM := ny_ hg aA; replace aA := bb_ aA hb; clear hb hbox hg; have bY := aM.out; have bZ := aK.out; obtain ⟨cA, cB, cC⟩ := cz3_ aC; obtain ⟨cD, cE, cF⟩ := fz3_ aC))
        go_ret; exact ⟨by first | rfl | (simp [*] <;> rfl), bl_ HB⟩
       ·rw [if_neg aO] at H; have bI : decide (1099511627776 < ((rd_T76 l0_0 aB).f1)) = false := decide_eq_false aO; clear aO; replace H := Option.bind_eq_some_iff.mp H; obtain ⟨aP, aZ, H⟩ := H; replace H : (if aP < aB then (some false) else (elastic_Bucket_right.l0 k1 a1 l0_0 (l0_0.length : Int) (wrap64 (aB + 1)) l0_0 a0_1)) = some r := H; have bA := mk_ aZ; clear aZ
        by_cases aQ : aP < aB
        ·rw [if_pos aQ] at H; have bJ : decide (aP < aB) = true := decide_eq_true aQ; clear aQ; obtain rfl := Option.some.inj H; have aF : 0 ≤ (aB : Int) := od_; have aG : aB < (l0_0.length : Int) := od_; obtain ⟨aL, e125, aH, aI, aJ⟩ := at_T76 aN.out aB aF aG
         cases e125; (try replace aH := bt_ HB aH); (try replace aI := bt_ HB aI); (try replace aJ := bt_ HB aJ); replace aF := eq_true aF; replace aG := eq_true aG
         go_wp2_with (first | ((with_reducible refine gate_dst (N := 6) rfl ?_); refine box_event ?hg (N := 6) ?hd (cs := #[.string (⟨#[]⟩ : ByteArray), .int .i64 0, .bool false]) (t := 76) ?hr ?_; (case hd => rfl); (case hg => rfl); (case hr => first | (go_simp; done) | (go_simp; rfl)); intro aD hg aT hbox hb; have aC := mk_ (hbox); have aV := gx_ hg HB; have aW := gx_ hg HB; replace HB := bs_ HB hb; have aK := nx_ hg aA; have aM := ny_ hg aA; replace aA := bb_ aA hb; clear hb hbox hg; have cG := aM.out; have cH := aK.out; obtain ⟨cI, cJ, cK⟩ := cz3_ aC; obtain ⟨cL, cM, cN⟩ := fz3_ aC; obtain ⟨cO, cP⟩ := cz2_ aA; obtain ⟨cQ, cR⟩ := fz2_ aA) | (go_at_call 30; (with_reducible refine (elastic_find.calls _ _ l0_0 a0_1 ((rd_T76 l0_0 aB).f0) aP _ ?side1 ?side2 bA.out).mono ?_); (case side1 => exact Kd.C_below aN.out (bl_ HB)); (case side2 => exact aY.out); rintro e cS ⟨rfl, hb⟩; replace aA := mk_ (blk_below (g := aE) (o := .cells #[.slice (some aL) l0_0.length c0_0, .int .i64 a0_1] 56 (0, 0)) fb_ hb); replace aC := mk_ (blk_below (g := aD) (o := .cells #[.string ((rd_T76 l0_0 aB).f0), .int .i64 ((rd_T76 l0_0 aB).f1), .bool ((rd_T76 l0_0 aB).f2)] 76 (0, 0)) (pt_ aC) hb); replace HB := bs_ HB hb; (try clear hb); ))
         go_ret; exact ⟨by first | rfl | (simp [*] <;> rfl), bl_ HB⟩
        ·rw [if_neg aQ] at H; have bJ : decide (aP < aB) = false := decide_eq_false aQ; clear aQ; have H' := mk_ H; clear H; have aF : 0 ≤ (aB : Int) := od_; have aG : aB < (l0_0.length : Int) := od_; obtain ⟨aL, e125, aH, aI, aJ⟩ := at_T76 aN.out aB aF aG
         cases e125; (try replace aH := bt_ HB aH); (try replace aI := bt_ HB aI); (try replace aJ := bt_ HB aJ); replace aF := eq_true aF; replace aG := eq_true aG
         go_wp2_with (first | ((with_reducible refine gate_dst (N := 6) rfl ?_); refine box_event ?hg (N := 6) ?hd (cs := #[.string (⟨#[]⟩ : ByteArray), .int .i64 0, .bool false]) (t := 76) ?hr ?_; (case hd => rfl); (case hg => rfl); (case hr => first | (go_simp; done) | (go_simp; rfl)); intro aD hg aU hbox hb; have aC := mk_ (hbox); have aV := gx_ hg HB; have aW := gx_ hg HB; replace HB := bs_ HB hb; have aK := nx_ hg aA; have aM := ny_ hg aA; replace aA := bb_ aA hb; clear hb hbox hg; have cT := aM.out; have cU := aK.out; obtain ⟨cV, cW, cX⟩ := cz3_ aC; obtain ⟨cY, cZ, dA⟩ := fz3_ aC; obtain ⟨dB, dC⟩ := cz2_ aA; obtain ⟨dD, dE⟩ := fz2_ aA) | (go_at_call 30; (with_reducible refine (elastic_find.calls _ _ l0_0 a0_1 ((rd_T76 l0_0 aB).f0) aP _ ?side1 ?side2 bA.out).mono ?_); (case side1 => exact Kd.C_below aN.out (bl_ HB)); (case side2 => exact aY.out); rintro e dF ⟨rfl, hb⟩; replace aA := mk_ (blk_below (g := aE) (o := .cells #[.slice (some aL) l0_0.length c0_0, .int .i64 a0_1] 56 (0, 0)) fb_ hb); replace aC := mk_ (blk_below (g := aD) (o := .cells #[.string ((rd_T76 l0_0 aB).f0), .int .i64 ((rd_T76 l0_0 aB).f1), .bool ((rd_T76 l0_0 aB).f2)] 76 (0, 0)) (pt_ aC) hb); replace HB := bs_ HB hb; (try clear hb); ))
         go_roundg k1
         case measure => have := HK1.out; omega
         case rel => exact ⟨(wrap64 (aB + 1)), (by first | rfl | (simp; done) | (simp [*]; done)), H', ⟨by have := HK1.out; omega⟩, ⟨bk_ aA⟩, ⟨bl_ HB⟩⟩
     ·rw [if_neg c7] at H; exact absurd H (by simp)
    ·rw [if_neg c6] at H; exact absurd H (by simp)
   ·rw [if_neg c5] at H; have bG : decide (aB < (l0_0.length : Int)) = false := decide_eq_false c5; clear c5
    by_cases aR : (l0_0.length : Int) ≤ a1
    ·rw [if_pos aR] at H; have bK : decide ((l0_0.length : Int) ≤ a1) = true := decide_eq_true aR; clear aR
     by_cases aS : a0_1 ≥ 0
     ·rw [if_pos aS] at H; have bL : decide (0 ≤ a0_1) = true := decide_eq_true aS; clear aS; obtain rfl := Option.some.inj H; obtain ⟨dG, dH⟩ := cz2_ aA; obtain ⟨dI, dJ⟩ := fz2_ aA
      go_wp2
      go_ret; exact ⟨by first | rfl | (simp [*] <;> rfl), bl_ HB⟩
     ·rw [if_neg aS] at H; have bL : decide (0 ≤ a0_1) = false := decide_eq_false aS; clear aS; obtain rfl := Option.some.inj H; obtain ⟨dK, dL⟩ := cz2_ aA; obtain ⟨dM, dN⟩ := fz2_ aA
      go_wp2
      go_ret; exact ⟨by first | rfl | (simp [*] <;> rfl), bl_ HB⟩
    ·rw [if_neg aR] at H; have bK : decide ((l0_0.length : Int) ≤ a1) = false := decide_eq_false aR; clear aR; obtain rfl := Option.some.inj H; obtain ⟨dO, dP⟩ := cz2_ aA; obtain ⟨dQ, dR⟩ := fz2_ aA
     go_wp2
     go_ret; exact ⟨by first | rfl | (simp [*] <;> rfl), bl_ HB⟩

-- NOT PRINTED: function 69 (elastic_Bucket_69)

/-! ### elastic_Bucket_44: function 44 -/
def elastic_Bucket_44.any (k : Nat) (a1 : Int) (l : List S56) : Option Bool := l.foldr (fun y r => (elastic_Bucket_right.f k y.f0 y.f1 a1).bind fun b => if b = true then r else some true) (some false)
/-- is one of the buckets not right? -/
def elastic_Bucket_44.f (k : Nat) (l0 : List (S56)) (a1 : Int) : Option (Bool) := if l0.length ≤ 9223372036854775807 then elastic_Bucket_44.any k a1 l0 else none
theorem elastic_Bucket_44.mono : ∀ a0 a1 k, LeO (elastic_Bucket_44.f k a0 a1) (elastic_Bucket_44.f (k + 1) a0 a1) := by
  intro a0 a1 k
  unfold elastic_Bucket_44.f
  split
  · unfold elastic_Bucket_44.any
    induction a0 with
    | nil => exact LeO.refl _
    | cons y l ih =>
      rename_i hl
      rw [List.foldr_cons, List.foldr_cons]
      intro r h
      obtain ⟨b, hb, h⟩ := Option.bind_eq_some_iff.mp h
      rw [elastic_Bucket_right.mono _ _ _ _ _ hb, Option.bind_some]
      cases b with
      | true => rw [if_pos rfl] at h ⊢; exact ih (by rw [List.length_cons] at hl; omega) _ h
      | false => rw [if_neg (by decide)] at h ⊢; exact h
  · exact LeO.refl _

set_option maxHeartbeats 80000000 in
set_option maxRecDepth 100000 in
theorem elastic_Bucket_44.lit (k : Nat) (y : S56) (A1 : Option Addr) (c1 : Nat) (B : Nat) (a1 : Int) (b : Bool) (w : World) (hB : w.cell? ⟨B, 1, none⟩ = some (.int .i64 a1)) (hr : Kd.C k76 w A1 y.f0.length y.f0) (hc : y.f0.length ≤ c1) (h : elastic_Bucket_right.f k y.f0 y.f1 a1 = some b) :
    Calls Try.prog 45 #[.agg #[.slice A1 y.f0.length c1, .int .i64 y.f1], .pointer (some ⟨B, 0, none⟩)] w fun e w' => e = .returned (.bool (!b)) ∧ Below w.heap.size w w' := by
  have hu_ := Try.underlying56
  have hu28 := Try.underlying28
  have HR := Aside0.mk hr
  have HC := Aside0.mk hc
  have HT := Aside0.mk h
  have HB := Aside0.mk (Below.refl w.heap.size w)
  have hlt := World.block_lt_of_cell? w _ hB
  clear h hr hc
  go_enter Try.func45, Try.ntmps45
  go_wp2_with (first | ((with_reducible refine gate_dst (N := 2) rfl ?_); refine box_event ?hg (N := 2) ?hd (cs := #[.slice A1 y.f0.length c1, .int .i64 y.f1]) (t := 56) ?hr ?_; (case hd => rfl); (case hg => rfl); (case hr => first | (go_simp; done) | (go_simp; rfl)); intro gb hg w2 hbox hb; have n0_ := Aside0.mk (below_step (bl_ HB) hb); have BK := Aside0.mk hbox; clear HB; have HB := n0_; clear n0_; clear hb hbox hg; have hcz_0 : w2.cell? ⟨gb, 0, none⟩ = some (.slice A1 y.f0.length c1) := (blk_cell BK.out 0).trans rfl; have hcz_1 : w2.cell? ⟨gb, 1, none⟩ = some (.int .i64 y.f1) := (blk_cell BK.out 1).trans rfl; have hfz_0 := blk_frozen BK.out 0; have hrm : w2.cell? ⟨B, 1, none⟩ = some (.int .i64 a1) := (HB.out.cell hlt).trans hB) | ((with_reducible refine gate_callee (f := 46) rfl ?_); refine gs_ (some 7) Try.func46 #[.agg #[.slice A1 y.f0.length c1, .int .i64 y.f1], .int .i64 a1] ?_; (refine (elastic_Bucket_right.calls k A1 c1 y.f0 y.f1 a1 b _ ?side1 ?side2 HT.out).mono ?_); (case side1 => first | exact Kd.C_below HR.out HB.out | exact Kd.C_drew (Kd.C_below HR.out HB.out)); (case side2 => exact HC.out); rintro e w4 ⟨rfl, hb⟩; refine ⟨_, rfl, ?_⟩; replace HB := Aside0.mk (below_step (bl_ HB) hb); clear hb))
  go_ret
  exact ⟨by first | rfl | (simp; done) | (simp [*]; done), bl_ HB⟩

theorem elastic_Bucket_44.drop_cons (l : List S56) (k : Nat) (h : k < l.length) : l.drop k = rd_T56 l (k : Int) :: l.drop (k + 1) := by
  rw [List.drop_eq_getElem_cons h]
  simp [rd_T56, List.getD_eq_getElem?_getD, h]

def elastic_Bucket_44.Tells (r : Bool) (w : World) (e : Ending) (w' : World) : Prop := ∃ n : Int, e = .returned (.int .i64 n) ∧ decide (n ≥ 0) = r ∧ Below w.heap.size w w'

set_option maxHeartbeats 80000000 in
set_option maxRecDepth 100000 in
theorem elastic_Bucket_44.index (k : Nat) (B : Nat) (a1 : Int) (A : Option Addr) (c : Nat) (l : List S56) (r : Bool) (w : World) (hB : w.cell? ⟨B, 1, none⟩ = some (.int .i64 a1)) (hr : Kd.C k56 w A l.length l) (hlen : l.length ≤ 9223372036854775807) (h : elastic_Bucket_44.any k a1 l = some r) :
    Calls Try.prog 69 #[.slice A l.length c, .func (.func 45) #[] #[.pointer (some ⟨B, 0, none⟩)]] w (elastic_Bucket_44.Tells r w) := by
  have HR := mk_ hr
  have H0 := mk_ h
  have HX := mk_ hB
  have hltB := World.block_lt_of_cell? w _ hB
  have HL := mk_ hltB
  clear hr h hB hltB
  have hu_ := Try.underlying56
  have e_ : ∀ (args : Array Value) (w : World), (callFunc 45 args).run Try.prog w = .ok (.enter 45 args) w := fun args w => enters_ Try.func45 (by kernel_rfl) rfl args w
  go_enter Try.func69, Try.ntmps69
  go_wp2
  go_loopg [5, 8] l.length (fun gg _ s8 wr => ∃ kk : Nat, kk ≤ l.length ∧ l.length - kk ≤ gg ∧ s8 = .int .i64 kk ∧ Aside0 (Below w.heap.size w wr) ∧ Aside0 (elastic_Bucket_44.any k a1 (l.drop kk) = some r))
  case atStart => exact ⟨0, Nat.zero_le _, by omega, rfl, ⟨Below.refl _ w⟩, ⟨by rw [List.drop_zero]; exact H0.out⟩⟩
  case round =>
    obtain ⟨kk, hkk, hg, rfl, BW, HA⟩ := hrel
    by_cases hlt : kk < l.length
    · have h2 := HA.out
      rw [elastic_Bucket_44.drop_cons l kk hlt, elastic_Bucket_44.any, List.foldr_cons, ← elastic_Bucket_44.any] at h2
      obtain ⟨b, hb, h2⟩ := Option.bind_eq_some_iff.mp h2
      have hltz : (kk : Int) < (l.length : Int) := by omega
      have hk0 : (0 : Int) ≤ (kk : Int) := by omega
      obtain ⟨ad, A1, c1, e, hx0, hx1, hl1, hi1⟩ := at_T56 HR.out (kk : Int) hk0 hltz
      cases e
      have hx0' := (BW.out.cell (World.block_lt_of_cell? w _ hx0)).trans hx0
      have hx1' := (BW.out.cell (World.block_lt_of_cell? w _ hx1)).trans hx1
      clear hx0 hx1
      simp only [Int.toNat_natCast] at hx0' hx1'
      have hcall := elastic_Bucket_44.lit k (rd_T56 l (kk : Int)) A1 c1 B a1 b wr ((BW.out.cell HL.out).trans HX.out) (Kd.C_below hi1 BW.out) hl1 hb
      clear hb
      generalize rd_T56 l (kk : Int) = y at *
      cases b with
      | true =>
        rw [if_pos rfl] at h2
        have H2 := mk_ h2
        clear h2
        go_wp2_with (go_at_fn 45; refine hcall.mono ?_; rintro e w' ⟨rfl, hb'⟩)
        go_roundg (l.length - (kk + 1))
        case measure => omega
        case rel => exact ⟨kk + 1, by omega, by omega, by go_num, ⟨BW.out.trans (hb'.mono BW.out.size)⟩, H2⟩
      | false =>
        rw [if_neg (by decide)] at h2
        obtain rfl := Option.some.inj h2
        clear h2
        go_wp2_with (go_at_fn 45; refine hcall.mono ?_; rintro e w' ⟨rfl, hb'⟩)
        go_ret
        exact ⟨(kk : Int), rfl, decide_eq_true (by omega), BW.out.trans (hb'.mono BW.out.size)⟩
    · have hltz : ¬ (kk : Int) < (l.length : Int) := by omega
      have : kk = l.length := by omega
      subst this
      have h2 := HA.out
      rw [List.drop_length, elastic_Bucket_44.any, List.foldr_nil] at h2
      obtain rfl := Option.some.inj h2
      clear h2
      go_wp2
      go_ret
      exact ⟨-1, rfl, by decide, BW.out⟩

set_option maxHeartbeats 80000000 in
set_option maxRecDepth 100000 in
theorem elastic_Bucket_44.calls (k : Nat) (B : Nat) (A0 : Option Addr) (c0 : Nat) (l0 : List (S56)) (a1 : Int) (r : Bool) (w : World) (hB : w.cell? ⟨B, 1, none⟩ = some (.int .i64 a1)) (hr0 : Kd.C k56 w A0 l0.length l0) (hc0 : l0.length ≤ c0) (h : elastic_Bucket_44.f k l0 a1 = some r) :
    Calls Try.prog 44 #[.slice A0 l0.length c0, .func (.func 45) #[] #[.pointer (some ⟨B, 0, none⟩)]] w fun e w' => e = .returned (.bool r) ∧ Below w.heap.size w w' := by
 unfold elastic_Bucket_44.f at h
 split at h
 ·rename_i hlen
  have hcall := elastic_Bucket_44.index k B a1 A0 c0 l0 r w hB hr0 hlen h; clear hr0 h hB
  have e_ : ∀ (args : Array Value) (w : World), (callFunc 69 args).run Try.prog w = .ok (.enter 69 args) w := fun args w => enters_ Try.func69 (by kernel_rfl) rfl args w
  go_enter Try.func44, Try.ntmps44
  go_wp2_with (go_at_fn 69; refine hcall.mono ?_; rintro e w' ⟨n, rfl, hn, hb⟩; have HN := mk_ hn; clear hn)
  go_ret; rw [HN.out]
  exact ⟨rfl, hb⟩
 ·cases h

end Go.Proofs.Ytljmjjeghebdpaa.PElasticSeen
