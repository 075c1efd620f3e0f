/- The functions that a law uses, each as a plain function, with the proof that a call of the Go function comes to its answer. Condition of each: the arguments read as the data that it names, and the plain function has an answer. Written by a program of this session (standin.py). -/
import Derived.Test.YtojmpdjbhplgkaaPIpfixPutsx0
import Derived.Test.YtojmpdjbhplgkaaPIpfixPutsx13
import Derived.Test.YtojmpdjbhplgkaaShort
import Derived.Lib.SliceRun
import Derived.Test.YtojmpdjbhplgkaaPressMore
namespace Go.Proofs.Ytojmpdjbhplgkaa.PIpfixPuts
open Go.RowKit Go.Proofs.YtojmpdjbhplgkaaW.PrintWords Go.Proofs.YtojmpdjbhplgkaaW.PrintLast Go.Proofs.YtojmpdjbhplgkaaW.PrintMore Go.Proofs.Ytojmpdjbhplgkaa.Short Go.Proofs.Ytojmpdjbhplgkaa.Press Go.Proofs.Ytojmpdjbhplgkaa.PressMore
attribute [local go_sem] max2_int min2_int max_two min_two max_three min_three max_four min_four   -- for this text's walks alone
set_option linter.unusedVariables false
set_option linter.unusedSimpArgs false

/-! ### rillmeterref22_Equal: function 26 -/
mutual
def rillmeterref22_Equal.j0 : Nat → Bool → Int → Int → Int → List (S93) → Int → Int → Int → List (S93) → Option (Bool)
  | 0, _, _, _, _, _, _, _, _, _ => none
  | k + 1, x36, x404000, x404001, x404002, x404003, x405000, x405001, x405002, x405003 => if x36 = true then (some false) else (rillmeterref22_Equal.l0 k 0 x404000 x404001 x404002 x404003 x405000 x405001 x405002 x405003)
def rillmeterref22_Equal.l0 : Nat → Int → Int → Int → Int → List (S93) → Int → Int → Int → List (S93) → Option (Bool)
  | 0, _, _, _, _, _, _, _, _, _ => none
  | k + 1, x5, x404000, x404001, x404002, x404003, x405000, x405001, x405002, x405003 => if x5 < (x404003.length : Int) then (if 0 ≤ x5 then (if x5 < (x405003.length : Int) then (if ((rd_T93 x404003 x5).f0) = ((rd_T93 x405003 x5).f0) then (if ((rd_T93 x404003 x5).f2).toList = ((rd_T93 x405003 x5).f2).toList then (rillmeterref22_Equal.j2 k x5 ((((rd_T93 x404003 x5).f1).length : Int) != (((rd_T93 x405003 x5).f1).length : Int)) x404000 x404001 x404002 x404003 x405000 x405001 x405002 x405003 ((rd_T93 x404003 x5).f0) ((rd_T93 x404003 x5).f1) ((rd_T93 x404003 x5).f2) ((rd_T93 x405003 x5).f0) ((rd_T93 x405003 x5).f1) ((rd_T93 x405003 x5).f2)) else (rillmeterref22_Equal.j2 k x5 true x404000 x404001 x404002 x404003 x405000 x405001 x405002 x405003 ((rd_T93 x404003 x5).f0) ((rd_T93 x404003 x5).f1) ((rd_T93 x404003 x5).f2) ((rd_T93 x405003 x5).f0) ((rd_T93 x405003 x5).f1) ((rd_T93 x405003 x5).f2))) else (rillmeterref22_Equal.j2 k x5 true x404000 x404001 x404002 x404003 x405000 x405001 x405002 x405003 ((rd_T93 x404003 x5).f0) ((rd_T93 x404003 x5).f1) ((rd_T93 x404003 x5).f2) ((rd_T93 x405003 x5).f0) ((rd_T93 x405003 x5).f1) ((rd_T93 x405003 x5).f2))) else (none)) else (none)) else (some true)
def rillmeterref22_Equal.j2 : Nat → Int → Bool → Int → Int → Int → List (S93) → Int → Int → Int → List (S93) → Int → List (S46) → ByteArray → Int → List (S46) → ByteArray → Option (Bool)
  | 0, _, _, _, _, _, _, _, _, _, _, _, _, _, _, _, _ => none
  | k + 1, x5, x74, x404000, x404001, x404002, x404003, x405000, x405001, x405002, x405003, x408000, x408001, x408002, x409000, x409001, x409002 => if x74 = true then (some false) else (rillmeterref22_Equal.l1 k x5 0 x404000 x404001 x404002 x404003 x405000 x405001 x405002 x405003 x408000 x408001 x408002 x409000 x409001 x409002)
def rillmeterref22_Equal.l1 : Nat → Int → Int → Int → Int → Int → List (S93) → Int → Int → Int → List (S93) → Int → List (S46) → ByteArray → Int → List (S46) → ByteArray → Option (Bool)
  | 0, _, _, _, _, _, _, _, _, _, _, _, _, _, _, _, _ => none
  | k + 1, x5, x8, x404000, x404001, x404002, x404003, x405000, x405001, x405002, x405003, x408000, x408001, x408002, x409000, x409001, x409002 => if x8 < (x408001.length : Int) then (if 0 ≤ x8 then (if x8 < (x409001.length : Int) then ((rillmeterref22_Same.f k ((rd_T46 x408001 x8).f0) ((rd_T46 x408001 x8).f1) ((rd_T46 x409001 x8).f0) ((rd_T46 x409001 x8).f1)).bind fun t411 => (if t411 = true then (rillmeterref22_Equal.l1 k x5 (wrap64 (x8 + 1)) x404000 x404001 x404002 x404003 x405000 x405001 x405002 x405003 x408000 x408001 x408002 x409000 x409001 x409002) else (some false))) else (none)) else (none)) else (rillmeterref22_Equal.l0 k (wrap64 (x5 + 1)) x404000 x404001 x404002 x404003 x405000 x405001 x405002 x405003)
end
def rillmeterref22_Equal.f (k : Nat) (a0_0 : Int) (a0_1 : Int) (a0_2 : Int) (l0_3 : List (S93)) (a1_0 : Int) (a1_1 : Int) (a1_2 : Int) (l1_3 : List (S93)) : Option (Bool) := if a0_0 = a1_0 then (if a0_1 = a1_1 then (if a0_2 = a1_2 then (rillmeterref22_Equal.j0 k ((l0_3.length : Int) != (l1_3.length : Int)) a0_0 a0_1 a0_2 l0_3 a1_0 a1_1 a1_2 l1_3) else (rillmeterref22_Equal.j0 k true a0_0 a0_1 a0_2 l0_3 a1_0 a1_1 a1_2 l1_3)) else (rillmeterref22_Equal.j0 k true a0_0 a0_1 a0_2 l0_3 a1_0 a1_1 a1_2 l1_3)) else (rillmeterref22_Equal.j0 k true a0_0 a0_1 a0_2 l0_3 a1_0 a1_1 a1_2 l1_3)
theorem rillmeterref22_Equal.mono_l : ∀ k, (∀ y0 y1 y2 y3 y4 y5 y6 y7 y8, LeO (rillmeterref22_Equal.j0 k y0 y1 y2 y3 y4 y5 y6 y7 y8) (rillmeterref22_Equal.j0 (k + 1) y0 y1 y2 y3 y4 y5 y6 y7 y8)) ∧ (∀ y0 y1 y2 y3 y4 y5 y6 y7 y8, LeO (rillmeterref22_Equal.l0 k y0 y1 y2 y3 y4 y5 y6 y7 y8) (rillmeterref22_Equal.l0 (k + 1) y0 y1 y2 y3 y4 y5 y6 y7 y8)) ∧ (∀ y0 y1 y2 y3 y4 y5 y6 y7 y8 y9 y10 y11 y12 y13 y14 y15, LeO (rillmeterref22_Equal.j2 k y0 y1 y2 y3 y4 y5 y6 y7 y8 y9 y10 y11 y12 y13 y14 y15) (rillmeterref22_Equal.j2 (k + 1) y0 y1 y2 y3 y4 y5 y6 y7 y8 y9 y10 y11 y12 y13 y14 y15)) ∧ (∀ y0 y1 y2 y3 y4 y5 y6 y7 y8 y9 y10 y11 y12 y13 y14 y15, LeO (rillmeterref22_Equal.l1 k y0 y1 y2 y3 y4 y5 y6 y7 y8 y9 y10 y11 y12 y13 y14 y15) (rillmeterref22_Equal.l1 (k + 1) y0 y1 y2 y3 y4 y5 y6 y7 y8 y9 y10 y11 y12 y13 y14 y15))
  | 0 => ⟨fun _ _ _ _ _ _ _ _ _ r h => by simp [rillmeterref22_Equal.j0] at h, fun _ _ _ _ _ _ _ _ _ r h => by simp [rillmeterref22_Equal.l0] at h, fun _ _ _ _ _ _ _ _ _ _ _ _ _ _ _ _ r h => by simp [rillmeterref22_Equal.j2] at h, fun _ _ _ _ _ _ _ _ _ _ _ _ _ _ _ _ r h => by simp [rillmeterref22_Equal.l1] at h⟩
  | k + 1 => by
    obtain ⟨ih0, ih1, ih2, ih3⟩ := rillmeterref22_Equal.mono_l k
    refine ⟨?_, ?_, ?_, ?_⟩
    · intro y0 y1 y2 y3 y4 y5 y6 y7 y8
      unfold rillmeterref22_Equal.j0
      repeat' first
      | (with_reducible exact ih0 _ _ _ _ _ _ _ _ _)
      | (with_reducible exact ih1 _ _ _ _ _ _ _ _ _)
      | (with_reducible exact ih2 _ _ _ _ _ _ _ _ _ _ _ _ _ _ _ _)
      | (with_reducible exact ih3 _ _ _ _ _ _ _ _ _ _ _ _ _ _ _ _)
      | (with_reducible exact rillmeterref22_Same.mono _ _ _ _ _)
      | (with_reducible exact LeO.refl _)
      | (with_reducible exact LeO.none _)
      | (with_reducible refine LeO.ite ?_ ?_)
      | (with_reducible refine LeO.bind ?_ (fun _ => ?_))
      | exact ih0 _ _ _ _ _ _ _ _ _
      | exact ih1 _ _ _ _ _ _ _ _ _
      | exact ih2 _ _ _ _ _ _ _ _ _ _ _ _ _ _ _ _
      | exact ih3 _ _ _ _ _ _ _ _ _ _ _ _ _ _ _ _
      | exact rillmeterref22_Same.mono _ _ _ _ _
      | exact LeO.none _
      | refine LeO.ite ?_ ?_
      | refine LeO.bind ?_ (fun _ => ?_)
    · intro y0 y1 y2 y3 y4 y5 y6 y7 y8
      unfold rillmeterref22_Equal.l0
      repeat' first
      | (with_reducible exact ih0 _ _ _ _ _ _ _ _ _)
      | (with_reducible exact ih1 _ _ _ _ _ _ _ _ _)
      | (with_reducible exact ih2 _ _ _ _ _ _ _ _ _ _ _ _ _ _ _ _)
      | (with_reducible exact ih3 _ _ _ _ _ _ _ _ _ _ _ _ _ _ _ _)
      | (with_reducible exact rillmeterref22_Same.mono _ _ _ _ _)
      | (with_reducible exact LeO.refl _)
      | (with_reducible exact LeO.none _)
      | (with_reducible refine LeO.ite ?_ ?_)
      | (with_reducible refine LeO.bind ?_ (fun _ => ?_))
      | exact ih0 _ _ _ _ _ _ _ _ _
      | exact ih1 _ _ _ _ _ _ _ _ _
      | exact ih2 _ _ _ _ _ _ _ _ _ _ _ _ _ _ _ _
      | exact ih3 _ _ _ _ _ _ _ _ _ _ _ _ _ _ _ _
      | exact rillmeterref22_Same.mono _ _ _ _ _
      | exact LeO.none _
      | refine LeO.ite ?_ ?_
      | refine LeO.bind ?_ (fun _ => ?_)
    · intro y0 y1 y2 y3 y4 y5 y6 y7 y8 y9 y10 y11 y12 y13 y14 y15
      unfold rillmeterref22_Equal.j2
      repeat' first
      | (with_reducible exact ih0 _ _ _ _ _ _ _ _ _)
      | (with_reducible exact ih1 _ _ _ _ _ _ _ _ _)
      | (with_reducible exact ih2 _ _ _ _ _ _ _ _ _ _ _ _ _ _ _ _)
      | (with_reducible exact ih3 _ _ _ _ _ _ _ _ _ _ _ _ _ _ _ _)
      | (with_reducible exact rillmeterref22_Same.mono _ _ _ _ _)
      | (with_reducible exact LeO.refl _)
      | (with_reducible exact LeO.none _)
      | (with_reducible refine LeO.ite ?_ ?_)
      | (with_reducible refine LeO.bind ?_ (fun _ => ?_))
      | exact ih0 _ _ _ _ _ _ _ _ _
      | exact ih1 _ _ _ _ _ _ _ _ _
      | exact ih2 _ _ _ _ _ _ _ _ _ _ _ _ _ _ _ _
      | exact ih3 _ _ _ _ _ _ _ _ _ _ _ _ _ _ _ _
      | exact rillmeterref22_Same.mono _ _ _ _ _
      | exact LeO.none _
      | refine LeO.ite ?_ ?_
      | refine LeO.bind ?_ (fun _ => ?_)
    · intro y0 y1 y2 y3 y4 y5 y6 y7 y8 y9 y10 y11 y12 y13 y14 y15
      unfold rillmeterref22_Equal.l1
      repeat' first
      | (with_reducible exact ih0 _ _ _ _ _ _ _ _ _)
      | (with_reducible exact ih1 _ _ _ _ _ _ _ _ _)
      | (with_reducible exact ih2 _ _ _ _ _ _ _ _ _ _ _ _ _ _ _ _)
      | (with_reducible exact ih3 _ _ _ _ _ _ _ _ _ _ _ _ _ _ _ _)
      | (with_reducible exact rillmeterref22_Same.mono _ _ _ _ _)
      | (with_reducible exact LeO.refl _)
      | (with_reducible exact LeO.none _)
      | (with_reducible refine LeO.ite ?_ ?_)
      | (with_reducible refine LeO.bind ?_ (fun _ => ?_))
      | exact ih0 _ _ _ _ _ _ _ _ _
      | exact ih1 _ _ _ _ _ _ _ _ _
      | exact ih2 _ _ _ _ _ _ _ _ _ _ _ _ _ _ _ _
      | exact ih3 _ _ _ _ _ _ _ _ _ _ _ _ _ _ _ _
      | exact rillmeterref22_Same.mono _ _ _ _ _
      | exact LeO.none _
      | refine LeO.ite ?_ ?_
      | refine LeO.bind ?_ (fun _ => ?_)
theorem rillmeterref22_Equal.mono : ∀ a0 a1 a2 a3 a4 a5 a6 a7 k, LeO (rillmeterref22_Equal.f k a0 a1 a2 a3 a4 a5 a6 a7) (rillmeterref22_Equal.f (k + 1) a0 a1 a2 a3 a4 a5 a6 a7) := by
  intro a0 a1 a2 a3 a4 a5 a6 a7 k
  obtain ⟨ih0, ih1, ih2, ih3⟩ := rillmeterref22_Equal.mono_l k
  unfold rillmeterref22_Equal.f
  repeat' first
      | (with_reducible exact ih0 _ _ _ _ _ _ _ _ _)
      | (with_reducible exact ih1 _ _ _ _ _ _ _ _ _)
      | (with_reducible exact ih2 _ _ _ _ _ _ _ _ _ _ _ _ _ _ _ _)
      | (with_reducible exact ih3 _ _ _ _ _ _ _ _ _ _ _ _ _ _ _ _)
      | (with_reducible exact rillmeterref22_Same.mono _ _ _ _ _)
      | (with_reducible exact LeO.refl _)
      | (with_reducible exact LeO.none _)
      | (with_reducible refine LeO.ite ?_ ?_)
      | (with_reducible refine LeO.bind ?_ (fun _ => ?_))
      | exact ih0 _ _ _ _ _ _ _ _ _
      | exact ih1 _ _ _ _ _ _ _ _ _
      | exact ih2 _ _ _ _ _ _ _ _ _ _ _ _ _ _ _ _
      | exact ih3 _ _ _ _ _ _ _ _ _ _ _ _ _ _ _ _
      | exact rillmeterref22_Same.mono _ _ _ _ _
      | exact LeO.none _
      | refine LeO.ite ?_ ?_
      | refine LeO.bind ?_ (fun _ => ?_)
def rillmeterref22_Equal.T6 : Bool × List (List Nat × List Nat) := (true, [([], []), ([0], [0]), ([], []), ([1, 2], [1, 2]), ([3], [3]), ([], []), ([5], [5]), ([], []), ([6, 7], [6, 7]), ([8], [8]), ([], []), ([], []), ([10, 4, 0, 1, 2, 3, 4, 10, 11], [4, 10]), ([11, 9, 12, 0, 1, 2, 3, 4, 5, 6, 7, 8, 9, 10, 11, 12], [9, 11])])
def rillmeterref22_Equal.B6 : List Nat := [0, 1, 0, 7, 15, 0, 32, 0, 224, 480, 0, 0, 3103, 8191]
theorem rillmeterref22_Equal.tab6 : rtab .any (opsOf Try.f26 6) = rillmeterref22_Equal.T6 := by kernel_rfl
theorem rillmeterref22_Equal.bits6 : waitsOk rillmeterref22_Equal.T6.2 rillmeterref22_Equal.B6 = true := by kernel_rfl
def rillmeterref22_Equal.T12 : Bool × List (List Nat × List Nat) := (true, [([], []), ([0], [0]), ([], []), ([1, 2], [1, 2]), ([3], [3]), ([], []), ([5], [5]), ([], []), ([6, 7], [6, 7]), ([8], [8]), ([4, 9], [4, 9]), ([10], [10])])
def rillmeterref22_Equal.B12 : List Nat := [0, 1, 0, 7, 15, 0, 32, 0, 224, 480, 1023, 2047]
theorem rillmeterref22_Equal.tab12 : rtab .any (opsOf Try.f26 12) = rillmeterref22_Equal.T12 := by kernel_rfl
theorem rillmeterref22_Equal.bits12 : waitsOk rillmeterref22_Equal.T12.2 rillmeterref22_Equal.B12 = true := by kernel_rfl
set_option maxHeartbeats 80000000 in
set_option maxRecDepth 100000 in
theorem rillmeterref22_Equal.calls (k : Nat) (a0_0 : Int) (a0_1 : Int) (a0_2 : Int) (A0_3 : Option Addr) (c0_3 : Nat) (l0_3 : List (S93)) (a1_0 : Int) (a1_1 : Int) (a1_2 : Int) (A1_3 : Option Addr) (c1_3 : Nat) (l1_3 : List (S93)) (r : Bool) (w : World) (hr0_3 : Kd.C k93 w A0_3 l0_3.length l0_3) (hc0_3 : l0_3.length ≤ c0_3) (hr1_3 : Kd.C k93 w A1_3 l1_3.length l1_3) (hc1_3 : l1_3.length ≤ c1_3) (h : rillmeterref22_Equal.f k a0_0 a0_1 a0_2 l0_3 a1_0 a1_1 a1_2 l1_3 = some r) :
    Calls Try.prog 26 #[.agg #[.int .i64 a0_0, .int .i64 a0_1, .int .i64 a0_2, .slice A0_3 l0_3.length c0_3], .agg #[.int .i64 a1_0, .int .i64 a1_1, .int .i64 a1_2, .slice A1_3 l1_3.length c1_3]] w fun e w' => e = .returned (.bool r) ∧ Below w.heap.size w w' := by
 have hu58 := Try.underlying58; have hu93 := Try.underlying93; have hu46 := Try.underlying46; have jF := mk_ hr0_3; have lD := mk_ hc0_3; clear hr0_3 hc0_3; have jG := mk_ hr1_3; have lE := mk_ hc1_3; clear hr1_3 hc1_3; have HB := mk_ (Below.refl w.heap.size w); have H : (if a0_0 = a1_0 then (if a0_1 = a1_1 then (if a0_2 = a1_2 then (rillmeterref22_Equal.j0 k ((l0_3.length : Int) != (l1_3.length : Int)) a0_0 a0_1 a0_2 l0_3 a1_0 a1_1 a1_2 l1_3) else (rillmeterref22_Equal.j0 k true a0_0 a0_1 a0_2 l0_3 a1_0 a1_1 a1_2 l1_3)) else (rillmeterref22_Equal.j0 k true a0_0 a0_1 a0_2 l0_3 a1_0 a1_1 a1_2 l1_3)) else (rillmeterref22_Equal.j0 k true a0_0 a0_1 a0_2 l0_3 a1_0 a1_1 a1_2 l1_3)) = some r := h; clear h; have HC3 := mk_ H; clear H
 go_enter Try.func26, Try.ntmps26
 go_upto_region 1 with (first | ((with_reducible refine gate_dst (N := 2) rfl ?_); (try (refine gate_guard (by rfl) ?_; dsimp only)); refine box_event ?hg (N := 2) ?hd (cs := #[.int .i64 a0_0, .int .i64 a0_1, .int .i64 a0_2, .slice A0_3 l0_3.length c0_3]) (t := 58) ?hr ?_; (case hd => rfl); (case hg => rfl); (case hr => first | (go_simp; done) | (go_simp; rfl)); intro aK hg w4 hbox hb; have n0_ := bs_ HB hb; have n1_ := mk_ (hbox); have n2_ := gx_ hg HB; have n3_ := gx_ hg HB; clear HB; have HB := n0_; have aB := n1_; have lF := n2_; have lG := n3_; clear n0_ n1_ n2_ n3_; clear hb hbox hg) | ((with_reducible refine gate_dst (N := 3) rfl ?_); (try (refine gate_guard (by rfl) ?_; dsimp only)); refine box_event ?hg (N := 3) ?hd (cs := #[.int .i64 a1_0, .int .i64 a1_1, .int .i64 a1_2, .slice A1_3 l1_3.length c1_3]) (t := 58) ?hr ?_; (case hd => rfl); (case hg => rfl); (case hr => first | (go_simp; done) | (go_simp; rfl)); intro aM hg w5 hbox hb; have n0_ := bb_ aB hb; have n1_ := bs_ HB hb; have n2_ := mk_ (hbox); have n3_ := gx_ hg HB; have n4_ := gx_ hg HB; have n5_ := nx_ hg aB; have n6_ := ny_ hg aB; clear aB; clear HB; have aB := n0_; have HB := n1_; have aC := n2_; have lH := n3_; have lI := n4_; have cF := n5_; have cG := n6_; clear n0_ n1_ n2_ n3_ n4_ n5_ n6_; clear hb hbox hg))
 (try simp only [Act.put, sa_, sb_, sc_])
 go_cut [36] (fun jH wc => ∃ (kq : Nat) (cT : Bool), jH = .bool cT ∧ Aside0 (rillmeterref22_Equal.j0 kq cT a0_0 a0_1 a0_2 l0_3 a1_0 a1_1 a1_2 l1_3 = some r) ∧ Aside0 (kq ≤ k) ∧ Aside0 (wc.heap[aK]? = some (.cells #[.int .i64 a0_0, .int .i64 a0_1, .int .i64 a0_2, (.slice A0_3 l0_3.length c0_3)] 58 (0, 0))) ∧ Aside0 (wc.heap[aM]? = some (.cells #[.int .i64 a1_0, .int .i64 a1_1, .int .i64 a1_2, (.slice A1_3 l1_3.length c1_3)] 58 (0, 0))) ∧ Aside0 (Below w.heap.size w wc))
 case first =>
  have H := HC3.out; clear HC3
  by_cases c6 : a0_0 = a1_0
  ·rw [if_pos c6] at H; have bS : (a0_0 == a1_0) = true := beq_iff_eq.mpr c6; have gM : (a0_0 != a1_0) = false := bne_eq_false_iff_eq.mpr c6; clear c6
   (first | rw [bS] | (simp only [i64_w, i32_w]; rw [bS]) | skip)
   by_cases c7 : a0_1 = a1_1
   ·rw [if_pos c7] at H; have gN : (a0_1 == a1_1) = true := beq_iff_eq.mpr c7; have gO : (a0_1 != a1_1) = false := bne_eq_false_iff_eq.mpr c7; clear c7
    by_cases c8 : a0_2 = a1_2
    ·rw [if_pos c8] at H; have gP : (a0_2 == a1_2) = true := beq_iff_eq.mpr c8; have gQ : (a0_2 != a1_2) = false := bne_eq_false_iff_eq.mpr c8; clear c8; have H' := mk_ H; clear H; have lJ := cF.out; have lK := cG.out; have cU : w5.cell? ⟨aK, 0, none⟩ = some (.int .i64 a0_0) := bc_ aB 0; have cV : w5.cell? ⟨aK, 1, none⟩ = some (.int .i64 a0_1) := bc_ aB 1; have cW : w5.cell? ⟨aK, 2, none⟩ = some (.int .i64 a0_2) := bc_ aB 2; have cX : w5.cell? ⟨aK, 3, none⟩ = some (.slice A0_3 l0_3.length c0_3) := bc_ aB 3; have cY := blk_frozen aB.out 0; have cZ := blk_frozen aB.out 1; have dA := blk_frozen aB.out 2; have dB := blk_frozen aB.out 3; have dC : w5.cell? ⟨aM, 0, none⟩ = some (.int .i64 a1_0) := bc_ aC 0; have dD : w5.cell? ⟨aM, 1, none⟩ = some (.int .i64 a1_1) := bc_ aC 1; have dE : w5.cell? ⟨aM, 2, none⟩ = some (.int .i64 a1_2) := bc_ aC 2; have dF : w5.cell? ⟨aM, 3, none⟩ = some (.slice A1_3 l1_3.length c1_3) := bc_ aC 3; have dG := blk_frozen aC.out 0; have dH := blk_frozen aC.out 1; have dI := blk_frozen aC.out 2; have dJ := blk_frozen aC.out 3
     go_wp2
     go_meet
     case rel => exact ⟨_, (((l0_3.length : Int) != (l1_3.length : Int))), (by first | rfl | (simp; done) | (simp [*]; done)), H', ⟨by first | omega | exact Nat.le_refl _⟩, ⟨bk_ aB⟩, ⟨bk_ aC⟩, ⟨bl_ HB⟩⟩
    ·rw [if_neg c8] at H; have gP : (a0_2 == a1_2) = false := beq_eq_false_iff_ne.mpr c8; have gQ : (a0_2 != a1_2) = true := bne_iff_ne.mpr c8; have H' := mk_ H; clear H; have lL := cF.out; have lM := cG.out; have dK : w5.cell? ⟨aK, 0, none⟩ = some (.int .i64 a0_0) := bc_ aB 0; have dL : w5.cell? ⟨aK, 1, none⟩ = some (.int .i64 a0_1) := bc_ aB 1; have dM : w5.cell? ⟨aK, 2, none⟩ = some (.int .i64 a0_2) := bc_ aB 2; have dN : w5.cell? ⟨aK, 3, none⟩ = some (.slice A0_3 l0_3.length c0_3) := bc_ aB 3; have dO := blk_frozen aB.out 0; have dP := blk_frozen aB.out 1; have dQ := blk_frozen aB.out 2; have dR := blk_frozen aB.out 3; have dS : w5.cell? ⟨aM, 0, none⟩ = some (.int .i64 a1_0) := bc_ aC 0; have dT : w5.cell? ⟨aM, 1, none⟩ = some (.int .i64 a1_1) := bc_ aC 1; have dU : w5.cell? ⟨aM, 2, none⟩ = some (.int .i64 a1_2) := bc_ aC 2; have dV : w5.cell? ⟨aM, 3, none⟩ = some (.slice A1_3 l1_3.length c1_3) := bc_ aC 3; have dW := blk_frozen aC.out 0; have dX := blk_frozen aC.out 1; have dY := blk_frozen aC.out 2; have dZ := blk_frozen aC.out 3
     go_wp2
     go_meet
     case rel => exact ⟨_, (true), (by first | rfl | (simp; done) | (simp [*]; done)), H', ⟨by first | omega | exact Nat.le_refl _⟩, ⟨bk_ aB⟩, ⟨bk_ aC⟩, ⟨bl_ HB⟩⟩
   ·rw [if_neg c7] at H; have gN : (a0_1 == a1_1) = false := beq_eq_false_iff_ne.mpr c7; have gO : (a0_1 != a1_1) = true := bne_iff_ne.mpr c7; have H' := mk_ H; clear H; have lN := cF.out; have lO := cG.out; have fA : w5.cell? ⟨aK, 0, none⟩ = some (.int .i64 a0_0) := bc_ aB 0; have fB : w5.cell? ⟨aK, 1, none⟩ = some (.int .i64 a0_1) := bc_ aB 1; have fC : w5.cell? ⟨aK, 2, none⟩ = some (.int .i64 a0_2) := bc_ aB 2; have fD : w5.cell? ⟨aK, 3, none⟩ = some (.slice A0_3 l0_3.length c0_3) := bc_ aB 3; have fE := blk_frozen aB.out 0; have fF := blk_frozen aB.out 1; have fG := blk_frozen aB.out 2; have fH := blk_frozen aB.out 3; have fI : w5.cell? ⟨aM, 0, none⟩ = some (.int .i64 a1_0) := bc_ aC 0; have fJ : w5.cell? ⟨aM, 1, none⟩ = some (.int .i64 a1_1) := bc_ aC 1; have fK : w5.cell? ⟨aM, 2, none⟩ = some (.int .i64 a1_2) := bc_ aC 2; have fL : w5.cell? ⟨aM, 3, none⟩ = some (.slice A1_3 l1_3.length c1_3) := bc_ aC 3; have fM := blk_frozen aC.out 0; have fN := blk_frozen aC.out 1; have fO := blk_frozen aC.out 2; have fP := blk_frozen aC.out 3
    go_wp2
    go_meet
    case rel => exact ⟨_, (true), (by first | rfl | (simp; done) | (simp [*]; done)), H', ⟨by first | omega | exact Nat.le_refl _⟩, ⟨bk_ aB⟩, ⟨bk_ aC⟩, ⟨bl_ HB⟩⟩
  ·rw [if_neg c6] at H; have bS : (a0_0 == a1_0) = false := beq_eq_false_iff_ne.mpr c6; have gM : (a0_0 != a1_0) = true := bne_iff_ne.mpr c6
   (first | rw [bS] | (simp only [i64_w, i32_w]; rw [bS]) | skip)
   have H' := mk_ H; clear H; have lP := cF.out; have lQ := cG.out; have fQ : w5.cell? ⟨aK, 0, none⟩ = some (.int .i64 a0_0) := bc_ aB 0; have fR : w5.cell? ⟨aK, 1, none⟩ = some (.int .i64 a0_1) := bc_ aB 1; have fS : w5.cell? ⟨aK, 2, none⟩ = some (.int .i64 a0_2) := bc_ aB 2; have fT : w5.cell? ⟨aK, 3, none⟩ = some (.slice A0_3 l0_3.length c0_3) := bc_ aB 3; have fU := blk_frozen aB.out 0; have fV := blk_frozen aB.out 1; have fW := blk_frozen aB.out 2; have fX := blk_frozen aB.out 3; have fY : w5.cell? ⟨aM, 0, none⟩ = some (.int .i64 a1_0) := bc_ aC 0; have fZ : w5.cell? ⟨aM, 1, none⟩ = some (.int .i64 a1_1) := bc_ aC 1; have gA : w5.cell? ⟨aM, 2, none⟩ = some (.int .i64 a1_2) := bc_ aC 2; have gB : w5.cell? ⟨aM, 3, none⟩ = some (.slice A1_3 l1_3.length c1_3) := bc_ aC 3; have gC := blk_frozen aC.out 0; have gD := blk_frozen aC.out 1; have gE := blk_frozen aC.out 2; have gF := blk_frozen aC.out 3
   go_wp2
   go_meet
   case rel => exact ⟨_, (true), (by first | rfl | (simp; done) | (simp [*]; done)), H', ⟨by first | omega | exact Nat.le_refl _⟩, ⟨bk_ aB⟩, ⟨bk_ aC⟩, ⟨bl_ HB⟩⟩
 case rest =>
  clear HC3; (try clear c1); (try clear c2); (try clear p2); (try clear c6); (try clear bS); (try clear gM); (try clear c7); (try clear gN); (try clear gO); (try clear c8); (try clear gP); (try clear gQ); (try clear c9); (try clear jI); (try clear gR); (try clear gS); (try clear cU); (try clear cV); (try clear cW); (try clear cX); (try clear dC); (try clear dD); (try clear dE); (try clear dF); (try clear dK); (try clear dL); (try clear dM); (try clear dN); (try clear dS); (try clear dT); (try clear dU); (try clear dV); (try clear fA); (try clear fB); (try clear fC); (try clear fD); (try clear fI); (try clear fJ); (try clear fK); (try clear fL); (try clear fQ); (try clear fR); (try clear fS); (try clear fT); (try clear fY); (try clear fZ); (try clear gA); (try clear gB); (try clear cY); (try clear cZ); (try clear dA); (try clear dB); (try clear dG); (try clear dH); (try clear dI); (try clear dJ); (try clear dO); (try clear dP); (try clear dQ); (try clear dR); (try clear dW); (try clear dX); (try clear dY); (try clear dZ); (try clear fE); (try clear fF); (try clear fG); (try clear fH); (try clear fM); (try clear fN); (try clear fO); (try clear fP); (try clear fU)
  (try clear fV); (try clear fW); (try clear fX); (try clear gC); (try clear gD); (try clear gE); (try clear gF); obtain ⟨kq, cT, rfl, HA, HJ2, aB, aC, HB⟩ := hcut
  cases kq with
  | zero => exact absurd HA.out (by simp [rillmeterref22_Equal.j0])
  | succ gT =>
   have H := HA.out; clear HA; simp only [rillmeterref22_Equal.j0] at H
   by_cases bT : cT = true
   ·subst bT
    have H1 : (some false) = some r := by rw [if_pos rfl] at H; exact H
    clear H; have H := H1; clear H1; obtain rfl := Option.some.inj H
    go_wp2
    go_ret; exact ⟨by first | rfl | (simp [errW_none, errW_some] <;> rfl) | (simp [*, errW_none, errW_some] <;> rfl), bl_ HB⟩
   ·replace bT := Bool.eq_false_iff.mpr bT; subst bT
    have H1 : (rillmeterref22_Equal.l0 gT 0 a0_0 a0_1 a0_2 l0_3 a1_0 a1_1 a1_2 l1_3) = some r := by rw [if_neg (show ¬ (false = true) by decide)] at H; exact H
    clear H; have H := H1; clear H1; have H' := mk_ H; clear H
    go_wp2
    go_loopg [5] gT (fun kq v5 w' => ∃ (aA : Int), v5 = .int .i64 aA ∧ Aside0 (rillmeterref22_Equal.l0 kq aA a0_0 a0_1 a0_2 l0_3 a1_0 a1_1 a1_2 l1_3 = some r) ∧ Aside0 (kq ≤ gT) ∧ Aside0 (w'.heap[aK]? = some (.cells #[.int .i64 a0_0, .int .i64 a0_1, .int .i64 a0_2, (.slice A0_3 l0_3.length c0_3)] 58 (0, 0))) ∧ Aside0 (w'.heap[aM]? = some (.cells #[.int .i64 a1_0, .int .i64 a1_1, .int .i64 a1_2, (.slice A1_3 l1_3.length c1_3)] 58 (0, 0))) ∧ Aside0 (Below w.heap.size w w'))
    case atStart => exact ⟨(0), (by first | rfl | (simp; done) | (simp [*]; done)), H', ⟨Nat.le_refl _⟩, ⟨bk_ aB⟩, ⟨bk_ aC⟩, ⟨bl_ HB⟩⟩
    case round =>
     clear H'; (try clear c1); (try clear c2); (try clear p2); (try clear c6); (try clear bS); (try clear gM); (try clear c7); (try clear gN); (try clear gO); (try clear c8); (try clear gP); (try clear gQ); (try clear c9); (try clear jI); (try clear gR); (try clear gS); (try clear bT); (try clear cU); (try clear cV); (try clear cW); (try clear cX); (try clear dC); (try clear dD); (try clear dE); (try clear dF); (try clear dK); (try clear dL); (try clear dM); (try clear dN); (try clear dS); (try clear dT); (try clear dU); (try clear dV); (try clear fA); (try clear fB); (try clear fC); (try clear fD); (try clear fI); (try clear fJ); (try clear fK); (try clear fL); (try clear fQ); (try clear fR); (try clear fS); (try clear fT); (try clear fY); (try clear fZ); (try clear gA); (try clear gB); (try clear cY); (try clear cZ); (try clear dA); (try clear dB); (try clear dG); (try clear dH); (try clear dI); (try clear dJ); (try clear dO); (try clear dP); (try clear dQ); (try clear dR); (try clear dW); (try clear dX); (try clear dY); (try clear dZ); (try clear fE); (try clear fF); (try clear fG); (try clear fH); (try clear fM); (try clear fN); (try clear fO); (try clear fP)
     (try clear fU); (try clear fV); (try clear fW); (try clear fX); (try clear gC); (try clear gD); (try clear gE); (try clear gF); (try clear p2); obtain ⟨aA, rfl, HA, HK2, aB, aC, HB⟩ := hrel
     cases gk with
     | zero => exact absurd HA.out (by simp [rillmeterref22_Equal.l0])
     | succ k2 =>
      have H := HA.out; clear HA; simp only [rillmeterref22_Equal.l0] at H
      by_cases bR : aA < (l0_3.length : Int)
      ·rw [if_pos bR] at H; have gU : decide (aA < (l0_3.length : Int)) = true := decide_eq_true bR; clear bR
       by_cases cH : 0 ≤ aA
       ·rw [if_pos cH] at H; have hD : decide (0 ≤ aA) = true := decide_eq_true cH; clear cH
        by_cases cI : aA < (l1_3.length : Int)
        ·rw [if_pos cI] at H; have hE : decide (aA < (l1_3.length : Int)) = true := decide_eq_true cI; clear cI; have HC25 := mk_ H; clear H; have lR := cF.out; have lS := cG.out; have hF : wr.cell? ⟨aK, 0, none⟩ = some (.int .i64 a0_0) := bc_ aB 0; have hG : wr.cell? ⟨aK, 1, none⟩ = some (.int .i64 a0_1) := bc_ aB 1; have hH : wr.cell? ⟨aK, 2, none⟩ = some (.int .i64 a0_2) := bc_ aB 2; have hI : wr.cell? ⟨aK, 3, none⟩ = some (.slice A0_3 l0_3.length c0_3) := bc_ aB 3; have hJ := blk_frozen aB.out 0; have hL := blk_frozen aB.out 1; have hM := blk_frozen aB.out 2; have hN := blk_frozen aB.out 3
         try go_wp2
         replace aB := bd_ aB; replace aC := bd_ aC; replace HB := mk_ (below_drew1 HB.out); have cK : 0 ≤ (aA : Int) := of_decide_eq_true (by first | (with_reducible assumption) | assumption); have cL : aA < (l0_3.length : Int) := of_decide_eq_true (by first | (with_reducible assumption) | assumption); obtain ⟨aZ, A405_1, c405_1, e405, bU, bV, bW, hO, hi405_1⟩ := at_T93 jF.out aA cK cL; have aN := bW; have aO := bV; have aP := bU
         cases e405; (try replace bU := bt_ HB bU); (try replace bV := bt_ HB bV); (try replace bW := bt_ HB bW); have gV := mk_ hi405_1; have lT := mk_ hO; clear hi405_1 hO; replace cK := eq_true cK; replace cL := eq_true cL; have cM : 0 ≤ (aA : Int) := of_decide_eq_true (by first | (with_reducible assumption) | assumption); have cN : aA < (l1_3.length : Int) := of_decide_eq_true (by first | (with_reducible assumption) | assumption); obtain ⟨bA, A406_1, c406_1, e406, bX, bY, bZ, hP, hi406_1⟩ := at_T93 jG.out aA cM cN; have aQ := bZ; have aR := bY; have aS := bX
         cases e406; (try replace bX := bt_ HB bX); (try replace bY := bt_ HB bY); (try replace bZ := bt_ HB bZ); have gW := mk_ hi406_1; have lU := mk_ hP; clear hi406_1 hP; replace cM := eq_true cM; replace cN := eq_true cN
         refine start_ (n := 14) (S := fun w' => w'.cell? ⟨aK, 0, none⟩ = some (.int .i64 a0_0) ∧ w'.cell? ⟨aK, 1, none⟩ = some (.int .i64 a0_1) ∧ w'.cell? ⟨aK, 2, none⟩ = some (.int .i64 a0_2) ∧ w'.cell? ⟨aK, 3, none⟩ = some (.slice (some aZ) l0_3.length c0_3) ∧ w'.cell? ⟨aM, 0, none⟩ = some (.int .i64 a1_0) ∧ w'.cell? ⟨aM, 1, none⟩ = some (.int .i64 a1_1) ∧ w'.cell? ⟨aM, 2, none⟩ = some (.int .i64 a1_2) ∧ w'.cell? ⟨aM, 3, none⟩ = some (.slice (some bA) l1_3.length c1_3) ∧ w'.cell? (aZ.add ((aA).toNat * 3)) = some (.int .i64 ((rd_T93 l0_3 aA).f0)) ∧ w'.cell? ⟨(aZ.add ((aA).toNat * 3)).block, (aZ.add ((aA).toNat * 3)).off + 1, none⟩ = some (.slice A405_1 ((rd_T93 l0_3 aA).f1).length c405_1) ∧ w'.cell? ⟨(aZ.add ((aA).toNat * 3)).block, (aZ.add ((aA).toNat * 3)).off + 2, none⟩ = some (.string ((rd_T93 l0_3 aA).f2)) ∧ w'.cell? (bA.add ((aA).toNat * 3)) = some (.int .i64 ((rd_T93 l1_3 aA).f0)) ∧ w'.cell? ⟨(bA.add ((aA).toNat * 3)).block, (bA.add ((aA).toNat * 3)).off + 1, none⟩ = some (.slice A406_1 ((rd_T93 l1_3 aA).f1).length c406_1) ∧ w'.cell? ⟨(bA.add ((aA).toNat * 3)).block, (bA.add ((aA).toNat * 3)).off + 2, none⟩ = some (.string ((rd_T93 l1_3 aA).f2))) (ds := []) (mB 14 0) (by kernel_rfl) rfl rfl ⟨bc_ aB 0, bc_ aB 1, bc_ aB 2, bc_ aB 3, bc_ aC 0, bc_ aC 1, bc_ aC 2, bc_ aC 3, ((HB.out.cell (World.block_lt_of_cell? w _ aP)).trans aP), ((HB.out.cell (World.block_lt_of_cell? w _ aO)).trans aO), ((HB.out.cell (World.block_lt_of_cell? w _ aN)).trans aN), ((HB.out.cell (World.block_lt_of_cell? w _ aS)).trans aS), ((HB.out.cell (World.block_lt_of_cell? w _ aR)).trans aR), ((HB.out.cell (World.block_lt_of_cell? w _ aQ)).trans aQ)⟩ (fun hHeld => ?_); refine with_tabW rillmeterref22_Equal.tab6 rillmeterref22_Equal.bits6 (fun HT_ HW_ => ?_)
         generalize wr.drew = lV at aB aC HB gV gW bU bV bW bX bY bZ hHeld ⊢; refine pw_ 0 44 (v := ?_) (a' := ?_) (mB 14 1) rfl rfl HT_ (by kernel_rfl) (fun _ _ _ h => h) ?_ ?_ ?_; rotate_left
         ·intro w'; go_simp; with_reducible rfl
         rotate_left
         ·simp only [Act.put, sa_, sb_, sc_, i64_w, i32_w]; rfl
         refine pw_ 2 46 (v := ?_) (a' := ?_) (mB 14 5) rfl rfl HT_ (by kernel_rfl) (fun _ _ _ h => h) ?_ ?_ ?_; rotate_left
         ·intro w'; go_simp; with_reducible rfl
         rotate_left
         ·simp only [Act.put, sa_, sb_, sc_, i64_w, i32_w]; rfl
         refine pw_ 5 49 (v := ?_) (a' := ?_) (mB 14 37) rfl rfl HT_ (by kernel_rfl) (fun _ _ _ h => h) ?_ ?_ ?_; rotate_left
         ·intro w'; go_simp; with_reducible rfl
         rotate_left
         ·simp only [Act.put, sa_, sb_, sc_, i64_w, i32_w]; rfl
         refine pw_ 7 51 (v := ?_) (a' := ?_) (mB 14 165) rfl rfl HT_ (by kernel_rfl) (fun _ _ _ h => h) ?_ ?_ ?_; rotate_left
         ·intro w'; go_simp; with_reducible rfl
         rotate_left
         ·simp only [Act.put, sa_, sb_, sc_, i64_w, i32_w]; rfl
         refine take_ (i := 1) (N := some 45) (v := ?_) (a' := ?_) (mB 14 167) rfl rfl (take_ofW HT_.out HW_.out (by kernel_rfl)) (fun _ _ _ h => h) (Or.inl ⟨by rfl, ?_⟩) hHeld ?_ ?_; rotate_left
         ·rintro w' ⟨s0, s1, s2, s3, s4, s5, s6, s7, s8, s9, s10, s11, s12, s13⟩; go_simp; with_reducible rfl
         rotate_left
         ·simp only [Act.put, sa_, sb_, sc_, i64_w, i32_w]; rfl
         refine pw_ 3 47 (v := ?_) (a' := ?_) (mB 14 175) rfl rfl HT_ (by kernel_rfl) (fun _ _ _ h => h) ?_ ?_ ?_; rotate_left
         ·intro w'; go_simp; with_reducible rfl
         rotate_left
         ·simp only [Act.put, sa_, sb_, sc_, i64_w, i32_w]; rfl
         refine take_ (i := 4) (N := some 48) (v := ?_) (a' := ?_) (mB 14 191) rfl rfl (take_ofW HT_.out HW_.out (by kernel_rfl)) (fun _ _ _ h => h) (Or.inl ⟨by rfl, ?_⟩) hHeld ?_ ?_; rotate_left
         ·rintro w' ⟨s0, s1, s2, s3, s4, s5, s6, s7, s8, s9, s10, s11, s12, s13⟩; go_simp; with_reducible rfl
         rotate_left
         ·simp only [Act.put, sa_, sb_, sc_, i64_w, i32_w]; rfl
         refine take_ (i := 6) (N := some 50) (v := ?_) (a' := ?_) (mB 14 255) rfl rfl (take_ofW HT_.out HW_.out (by kernel_rfl)) (fun _ _ _ h => h) (Or.inl ⟨by rfl, ?_⟩) hHeld ?_ ?_; rotate_left
         ·rintro w' ⟨s0, s1, s2, s3, s4, s5, s6, s7, s8, s9, s10, s11, s12, s13⟩; go_simp; with_reducible rfl
         rotate_left
         ·simp only [Act.put, sa_, sb_, sc_, i64_w, i32_w]; rfl
         refine pw_ 8 52 (v := ?_) (a' := ?_) (mB 14 511) rfl rfl HT_ (by kernel_rfl) (fun _ _ _ h => h) ?_ ?_ ?_; rotate_left
         ·intro w'; go_simp; with_reducible rfl
         rotate_left
         ·simp only [Act.put, sa_, sb_, sc_, i64_w, i32_w]; rfl
         refine take_ (i := 9) (N := some 53) (v := ?_) (a' := ?_) (mB 14 1023) rfl rfl (take_ofW HT_.out HW_.out (by kernel_rfl)) (fun _ _ _ h => h) (Or.inl ⟨by rfl, ?_⟩) hHeld ?_ ?_; rotate_left
         ·rintro w' ⟨s0, s1, s2, s3, s4, s5, s6, s7, s8, s9, s10, s11, s12, s13⟩; go_simp; with_reducible rfl
         rotate_left
         ·simp only [Act.put, sa_, sb_, sc_, i64_w, i32_w]; rfl
         refine join_ (σ := Nat × Nat) 2 (mB 14 4095) (fun s_ => [(6, .pointer (some ⟨s_.1, 0, none⟩)), (7, .pointer (some ⟨s_.2, 0, none⟩))]) (fun s_ w' => (w'.cell? ⟨aK, 0, none⟩ = some (.int .i64 a0_0) ∧ w'.cell? ⟨aK, 1, none⟩ = some (.int .i64 a0_1) ∧ w'.cell? ⟨aK, 2, none⟩ = some (.int .i64 a0_2) ∧ w'.cell? ⟨aK, 3, none⟩ = some (.slice (some aZ) l0_3.length c0_3) ∧ w'.cell? ⟨aM, 0, none⟩ = some (.int .i64 a1_0) ∧ w'.cell? ⟨aM, 1, none⟩ = some (.int .i64 a1_1) ∧ w'.cell? ⟨aM, 2, none⟩ = some (.int .i64 a1_2) ∧ w'.cell? ⟨aM, 3, none⟩ = some (.slice (some bA) l1_3.length c1_3) ∧ w'.cell? (aZ.add ((aA).toNat * 3)) = some (.int .i64 ((rd_T93 l0_3 aA).f0)) ∧ w'.cell? ⟨(aZ.add ((aA).toNat * 3)).block, (aZ.add ((aA).toNat * 3)).off + 1, none⟩ = some (.slice A405_1 ((rd_T93 l0_3 aA).f1).length c405_1) ∧ w'.cell? ⟨(aZ.add ((aA).toNat * 3)).block, (aZ.add ((aA).toNat * 3)).off + 2, none⟩ = some (.string ((rd_T93 l0_3 aA).f2)) ∧ w'.cell? (bA.add ((aA).toNat * 3)) = some (.int .i64 ((rd_T93 l1_3 aA).f0)) ∧ w'.cell? ⟨(bA.add ((aA).toNat * 3)).block, (bA.add ((aA).toNat * 3)).off + 1, none⟩ = some (.slice A406_1 ((rd_T93 l1_3 aA).f1).length c406_1) ∧ w'.cell? ⟨(bA.add ((aA).toNat * 3)).block, (bA.add ((aA).toNat * 3)).off + 2, none⟩ = some (.string ((rd_T93 l1_3 aA).f2))) ∧ (w'.heap[aK]? = some (.cells #[.int .i64 a0_0, .int .i64 a0_1, .int .i64 a0_2, .slice (some aZ) l0_3.length c0_3] 58 (0, 0))) ∧ (w'.heap[aM]? = some (.cells #[.int .i64 a1_0, .int .i64 a1_1, .int .i64 a1_2, .slice (some bA) l1_3.length c1_3] 58 (0, 0))) ∧ (w'.heap[s_.1]? = some (.cells #[.int .i64 0, .slice none 0 0, .string (⟨#[]⟩ : ByteArray)] 93 (0, 0))) ∧ (w'.heap[s_.2]? = some (.cells #[.int .i64 0, .slice none 0 0, .string (⟨#[]⟩ : ByteArray)] 93 (0, 0))) ∧ (w.heap.size ≤ s_.1) ∧ (w.heap.size ≤ s_.1) ∧ (aK ≠ s_.1) ∧ (s_.1 ≠ aK) ∧ (aM ≠ s_.1) ∧ (s_.1 ≠ aM) ∧ (s_.2 ≠ s_.1) ∧ (s_.1 ≠ s_.2) ∧ (w.heap.size ≤ s_.2) ∧ (w.heap.size ≤ s_.2) ∧ (aK ≠ s_.2) ∧ (s_.2 ≠ aK) ∧ (aM ≠ s_.2) ∧ (s_.2 ≠ aM) ∧ (Below w.heap.size w w')) ?_ ?_
         rotate_left
         ·intro hCont; refine two_ (i := 10) (j := 11) (Ni := some 6) (Nj := some 7) (mB 14 2047) (mB 14 3071) rfl rfl rfl rfl (two_of HT_.out (by kernel_rfl)) (by decide) (by decide) (fun K hK => ?_) (fun K hK => ?_)
          ·skip; refine box_step ?hg (N := 6) ?hd (cs := #[.int .i64 0, .slice none 0 0, .string (⟨#[]⟩ : ByteArray)]) (t := 93) ?hr ?_; (case hd => rfl); (case hg => rfl); (case hr => first | (go_simp; done) | (go_simp; rfl))
           intro aD hg jJ hbox hb; have aE := mk_ (hbox); have aF := gx_ hg HB; have gG := gx_ hg HB; replace HB := bs_ HB hb; have aT := nx_ hg aB; have bB := ny_ hg aB; replace aB := bb_ aB hb; have aU := nx_ hg aC; have bC := ny_ hg aC; replace aC := bb_ aC hb; clear hb hbox hg; refine hK.out _ _ ⟨bc_ aB 0, bc_ aB 1, bc_ aB 2, bc_ aB 3, bc_ aC 0, bc_ aC 1, bc_ aC 2, bc_ aC 3, ((HB.out.cell (World.block_lt_of_cell? w _ aP)).trans aP), ((HB.out.cell (World.block_lt_of_cell? w _ aO)).trans aO), ((HB.out.cell (World.block_lt_of_cell? w _ aN)).trans aN), ((HB.out.cell (World.block_lt_of_cell? w _ aS)).trans aS), ((HB.out.cell (World.block_lt_of_cell? w _ aR)).trans aR), ((HB.out.cell (World.block_lt_of_cell? w _ aQ)).trans aQ)⟩ (fun hHeld => ?_); clear hK K; refine norm_ (a' := ?_) ?_ ?_; rotate_left
           ·show Act.put _ (some 6) _ = _
            simp only [Act.put, sa_, sb_, sc_, i64_w, i32_w]; rfl
           refine one_ (i := 11) (N := some 7) (mB 14 4095) rfl rfl (one_of HT_.out (by kernel_rfl)) (by decide) (fun K hK => ?_); refine box_step ?hg (N := 7) ?hd (cs := #[.int .i64 0, .slice none 0 0, .string (⟨#[]⟩ : ByteArray)]) (t := 93) ?hr ?_; (case hd => rfl); (case hg => rfl); (case hr => first | (go_simp; done) | (go_simp; rfl)); intro aH hg jK hbox hb; have aI := mk_ (hbox); have aG := gx_ hg HB; have gH := gx_ hg HB; replace HB := bs_ HB hb; have aV := nx_ hg aB; have bH := ny_ hg aB; replace aB := bb_ aB hb; have aW := nx_ hg aC; have bI := ny_ hg aC; replace aC := bb_ aC hb; have aX := mk_ ((by rw [hg]; exact Nat.ne_of_lt (blk_lt (g := aD) (o := .cells #[.int .i64 0, .slice none 0 0, .string (⟨#[]⟩ : ByteArray)] 93 (0, 0)) (bk_ aE)) : aD ≠ aH)); have aY := mk_ ((by rw [hg]; exact Nat.ne_of_gt (blk_lt (g := aD) (o := .cells #[.int .i64 0, .slice none 0 0, .string (⟨#[]⟩ : ByteArray)] 93 (0, 0)) (bk_ aE)) : aH ≠ aD)); replace aE := mk_ (blk_below (g := aD) (o := .cells #[.int .i64 0, .slice none 0 0, .string (⟨#[]⟩ : ByteArray)] 93 (0, 0)) (bk_ aE) hb); clear hb hbox hg
           refine hK.out _ _ ⟨bc_ aB 0, bc_ aB 1, bc_ aB 2, bc_ aB 3, bc_ aC 0, bc_ aC 1, bc_ aC 2, bc_ aC 3, ((HB.out.cell (World.block_lt_of_cell? w _ aP)).trans aP), ((HB.out.cell (World.block_lt_of_cell? w _ aO)).trans aO), ((HB.out.cell (World.block_lt_of_cell? w _ aN)).trans aN), ((HB.out.cell (World.block_lt_of_cell? w _ aS)).trans aS), ((HB.out.cell (World.block_lt_of_cell? w _ aR)).trans aR), ((HB.out.cell (World.block_lt_of_cell? w _ aQ)).trans aQ)⟩ (fun hHeld => ?_); clear hK K; refine norm_ (a' := ?_) ?_ ?_; rotate_left
           ·show Act.put _ (some 7) _ = _
            simp only [Act.put, sa_, sb_, sc_, i64_w, i32_w]; rfl
           exact norm_ (by simp only [putAll, Act.put, sa_, sb_, sc_]) (hCont (aD, aH) _ ⟨hHeld, (bk_ aB), (bk_ aC), (bk_ aE), (bk_ aI), aF.out, gG.out, aT.out, bB.out, aU.out, bC.out, aY.out, aX.out, aG.out, gH.out, aV.out, bH.out, aW.out, bI.out, (bl_ HB)⟩)
          ·skip; refine box_step ?hg (N := 7) ?hd (cs := #[.int .i64 0, .slice none 0 0, .string (⟨#[]⟩ : ByteArray)]) (t := 93) ?hr ?_; (case hd => rfl); (case hg => rfl); (case hr => first | (go_simp; done) | (go_simp; rfl))
           intro aH hg jJ hbox hb; have aI := mk_ (hbox); have aG := gx_ hg HB; have gH := gx_ hg HB; replace HB := bs_ HB hb; have aV := nx_ hg aB; have bH := ny_ hg aB; replace aB := bb_ aB hb; have aW := nx_ hg aC; have bI := ny_ hg aC; replace aC := bb_ aC hb; clear hb hbox hg; refine hK.out _ _ ⟨bc_ aB 0, bc_ aB 1, bc_ aB 2, bc_ aB 3, bc_ aC 0, bc_ aC 1, bc_ aC 2, bc_ aC 3, ((HB.out.cell (World.block_lt_of_cell? w _ aP)).trans aP), ((HB.out.cell (World.block_lt_of_cell? w _ aO)).trans aO), ((HB.out.cell (World.block_lt_of_cell? w _ aN)).trans aN), ((HB.out.cell (World.block_lt_of_cell? w _ aS)).trans aS), ((HB.out.cell (World.block_lt_of_cell? w _ aR)).trans aR), ((HB.out.cell (World.block_lt_of_cell? w _ aQ)).trans aQ)⟩ (fun hHeld => ?_); clear hK K; refine norm_ (a' := ?_) ?_ ?_; rotate_left
           ·show Act.put _ (some 7) _ = _
            simp only [Act.put, sa_, sb_, sc_, i64_w, i32_w]; rfl
           refine one_ (i := 10) (N := some 6) (mB 14 4095) rfl rfl (one_of HT_.out (by kernel_rfl)) (by decide) (fun K hK => ?_); refine box_step ?hg (N := 6) ?hd (cs := #[.int .i64 0, .slice none 0 0, .string (⟨#[]⟩ : ByteArray)]) (t := 93) ?hr ?_; (case hd => rfl); (case hg => rfl); (case hr => first | (go_simp; done) | (go_simp; rfl)); intro aD hg jK hbox hb; have aE := mk_ (hbox); have aF := gx_ hg HB; have gG := gx_ hg HB; replace HB := bs_ HB hb; have aT := nx_ hg aB; have bB := ny_ hg aB; replace aB := bb_ aB hb; have aU := nx_ hg aC; have bC := ny_ hg aC; replace aC := bb_ aC hb; have aY := mk_ ((by rw [hg]; exact Nat.ne_of_lt (blk_lt (g := aH) (o := .cells #[.int .i64 0, .slice none 0 0, .string (⟨#[]⟩ : ByteArray)] 93 (0, 0)) (bk_ aI)) : aH ≠ aD)); have aX := mk_ ((by rw [hg]; exact Nat.ne_of_gt (blk_lt (g := aH) (o := .cells #[.int .i64 0, .slice none 0 0, .string (⟨#[]⟩ : ByteArray)] 93 (0, 0)) (bk_ aI)) : aD ≠ aH)); replace aI := mk_ (blk_below (g := aH) (o := .cells #[.int .i64 0, .slice none 0 0, .string (⟨#[]⟩ : ByteArray)] 93 (0, 0)) (bk_ aI) hb); clear hb hbox hg
           refine hK.out _ _ ⟨bc_ aB 0, bc_ aB 1, bc_ aB 2, bc_ aB 3, bc_ aC 0, bc_ aC 1, bc_ aC 2, bc_ aC 3, ((HB.out.cell (World.block_lt_of_cell? w _ aP)).trans aP), ((HB.out.cell (World.block_lt_of_cell? w _ aO)).trans aO), ((HB.out.cell (World.block_lt_of_cell? w _ aN)).trans aN), ((HB.out.cell (World.block_lt_of_cell? w _ aS)).trans aS), ((HB.out.cell (World.block_lt_of_cell? w _ aR)).trans aR), ((HB.out.cell (World.block_lt_of_cell? w _ aQ)).trans aQ)⟩ (fun hHeld => ?_); clear hK K; refine norm_ (a' := ?_) ?_ ?_; rotate_left
           ·show Act.put _ (some 6) _ = _
            simp only [Act.put, sa_, sb_, sc_, i64_w, i32_w]; rfl
           exact norm_ (by simp only [putAll, Act.put, sa_, sb_, sc_]) (hCont (aD, aH) _ ⟨hHeld, (bk_ aB), (bk_ aC), (bk_ aE), (bk_ aI), aF.out, gG.out, aT.out, bB.out, aU.out, bC.out, aY.out, aX.out, aG.out, gH.out, aV.out, bH.out, aW.out, bI.out, (bl_ HB)⟩)
         rintro ⟨aD, aH⟩ aL ⟨hS_, h0_, h1_, h2_, h3_, h4_, h5_, h6_, h7_, h8_, h9_, h10_, h11_, h12_, h13_, h14_, h15_, h16_, h17_, h18_⟩; (try dsimp only at hS_ h0_ h1_ h2_ h3_ h4_ h5_ h6_ h7_ h8_ h9_ h10_ h11_ h12_ h13_ h14_ h15_ h16_ h17_ h18_); replace aB := mk_ (h0_); replace aC := mk_ (h1_); have aE := mk_ (h2_); have aI := mk_ (h3_); have aF := mk_ (h4_); have gG := mk_ (h5_); have aT := mk_ (h6_); have bB := mk_ (h7_); have aU := mk_ (h8_); have bC := mk_ (h9_); have aY := mk_ (h10_); have aX := mk_ (h11_); have aG := mk_ (h12_); have gH := mk_ (h13_); have aV := mk_ (h14_); have bH := mk_ (h15_); have aW := mk_ (h16_); have bI := mk_ (h17_); replace HB := mk_ (h18_); clear h0_ h1_ h2_ h3_ h4_ h5_ h6_ h7_ h8_ h9_ h10_ h11_ h12_ h13_ h14_ h15_ h16_ h17_ h18_
         have hHeld : aL.cell? ⟨aK, 0, none⟩ = some (.int .i64 a0_0) ∧ aL.cell? ⟨aK, 1, none⟩ = some (.int .i64 a0_1) ∧ aL.cell? ⟨aK, 2, none⟩ = some (.int .i64 a0_2) ∧ aL.cell? ⟨aK, 3, none⟩ = some (.slice (some aZ) l0_3.length c0_3) ∧ aL.cell? ⟨aM, 0, none⟩ = some (.int .i64 a1_0) ∧ aL.cell? ⟨aM, 1, none⟩ = some (.int .i64 a1_1) ∧ aL.cell? ⟨aM, 2, none⟩ = some (.int .i64 a1_2) ∧ aL.cell? ⟨aM, 3, none⟩ = some (.slice (some bA) l1_3.length c1_3) ∧ aL.cell? (aZ.add ((aA).toNat * 3)) = some (.int .i64 ((rd_T93 l0_3 aA).f0)) ∧ aL.cell? ⟨(aZ.add ((aA).toNat * 3)).block, (aZ.add ((aA).toNat * 3)).off + 1, none⟩ = some (.slice A405_1 ((rd_T93 l0_3 aA).f1).length c405_1) ∧ aL.cell? ⟨(aZ.add ((aA).toNat * 3)).block, (aZ.add ((aA).toNat * 3)).off + 2, none⟩ = some (.string ((rd_T93 l0_3 aA).f2)) ∧ aL.cell? (bA.add ((aA).toNat * 3)) = some (.int .i64 ((rd_T93 l1_3 aA).f0)) ∧ aL.cell? ⟨(bA.add ((aA).toNat * 3)).block, (bA.add ((aA).toNat * 3)).off + 1, none⟩ = some (.slice A406_1 ((rd_T93 l1_3 aA).f1).length c406_1) ∧ aL.cell? ⟨(bA.add ((aA).toNat * 3)).block, (bA.add ((aA).toNat * 3)).off + 2, none⟩ = some (.string ((rd_T93 l1_3 aA).f2)) := hS_; refine norm_ (a' := ?_) ?_ ?_; rotate_left
         ·simp only [putAll, Act.put, sa_, sb_, sc_]; rfl
         refine one_ (i := 12) (N := none) (mB 14 8191) rfl rfl (one_of HT_.out (by kernel_rfl)) (by decide) (fun K hK => ?_); have hs32 : aL.cell? ⟨aD, 0, none⟩ = some (.int .i64 0) := bc_ aE 0; have hfs32 := blk_frozen aE.out 0; have hns32_0 := aT.out; have hns32_1 := aU.out; have hns32_3 := aY.out; have hms32_0 := bB.out; have hms32_1 := bC.out; have hms32_3 := aX.out; have hs33 : aL.cell? ⟨aD, 1, none⟩ = some (.slice none 0 0) := bc_ aE 1; have hfs33 := blk_frozen aE.out 1; have hns33_0 := aT.out; have hns33_1 := aU.out; have hns33_3 := aY.out; have hms33_0 := bB.out; have hms33_1 := bC.out; have hms33_3 := aX.out; have hs34 : aL.cell? ⟨aD, 2, none⟩ = some (.string (⟨#[]⟩ : ByteArray)) := bc_ aE 2; have hfs34 := blk_frozen aE.out 2; have hns34_0 := aT.out; have hns34_1 := aU.out; have hns34_3 := aY.out; have hms34_0 := bB.out; have hms34_1 := bC.out; have hms34_3 := aX.out; refine skip_ (w1 := ?_) (by rfl) rfl ?_ ?_; rotate_left
         ·go_simp; rfl
         refine hK.out _ _ ⟨((cell_far (p := ⟨aD, _, none⟩) aT.out _).trans (((cell_far (p := ⟨aD, _, none⟩) aT.out _).trans (((cell_far (p := ⟨aD, _, none⟩) aT.out _).trans (hHeld.1)))))), ((cell_far (p := ⟨aD, _, none⟩) aT.out _).trans (((cell_far (p := ⟨aD, _, none⟩) aT.out _).trans (((cell_far (p := ⟨aD, _, none⟩) aT.out _).trans (hHeld.2.1)))))), ((cell_far (p := ⟨aD, _, none⟩) aT.out _).trans (((cell_far (p := ⟨aD, _, none⟩) aT.out _).trans (((cell_far (p := ⟨aD, _, none⟩) aT.out _).trans (hHeld.2.2.1)))))), ((cell_far (p := ⟨aD, _, none⟩) aT.out _).trans (((cell_far (p := ⟨aD, _, none⟩) aT.out _).trans (((cell_far (p := ⟨aD, _, none⟩) aT.out _).trans (hHeld.2.2.2.1)))))), ((cell_far (p := ⟨aD, _, none⟩) aU.out _).trans (((cell_far (p := ⟨aD, _, none⟩) aU.out _).trans (((cell_far (p := ⟨aD, _, none⟩) aU.out _).trans (hHeld.2.2.2.2.1)))))), ((cell_far (p := ⟨aD, _, none⟩) aU.out _).trans (((cell_far (p := ⟨aD, _, none⟩) aU.out _).trans (((cell_far (p := ⟨aD, _, none⟩) aU.out _).trans (hHeld.2.2.2.2.2.1)))))), ((cell_far (p := ⟨aD, _, none⟩) aU.out _).trans (((cell_far (p := ⟨aD, _, none⟩) aU.out _).trans (((cell_far (p := ⟨aD, _, none⟩) aU.out _).trans (hHeld.2.2.2.2.2.2.1)))))), ((cell_far (p := ⟨aD, _, none⟩) aU.out _).trans (((cell_far (p := ⟨aD, _, none⟩) aU.out _).trans (((cell_far (p := ⟨aD, _, none⟩) aU.out _).trans (hHeld.2.2.2.2.2.2.2.1)))))), ((cell_far (p := ⟨aD, _, none⟩) (nb_ aP aF) _).trans (((cell_far (p := ⟨aD, _, none⟩) (nb_ aP aF) _).trans (((cell_far (p := ⟨aD, _, none⟩) (nb_ aP aF) _).trans (hHeld.2.2.2.2.2.2.2.2.1)))))), ((cell_far (p := ⟨aD, _, none⟩) (nb_ aO aF) _).trans (((cell_far (p := ⟨aD, _, none⟩) (nb_ aO aF) _).trans (((cell_far (p := ⟨aD, _, none⟩) (nb_ aO aF) _).trans (hHeld.2.2.2.2.2.2.2.2.2.1)))))), ((cell_far (p := ⟨aD, _, none⟩) (nb_ aN aF) _).trans (((cell_far (p := ⟨aD, _, none⟩) (nb_ aN aF) _).trans (((cell_far (p := ⟨aD, _, none⟩) (nb_ aN aF) _).trans (hHeld.2.2.2.2.2.2.2.2.2.2.1)))))), ((cell_far (p := ⟨aD, _, none⟩) (nb_ aS aF) _).trans (((cell_far (p := ⟨aD, _, none⟩) (nb_ aS aF) _).trans (((cell_far (p := ⟨aD, _, none⟩) (nb_ aS aF) _).trans (hHeld.2.2.2.2.2.2.2.2.2.2.2.1)))))), ((cell_far (p := ⟨aD, _, none⟩) (nb_ aR aF) _).trans (((cell_far (p := ⟨aD, _, none⟩) (nb_ aR aF) _).trans (((cell_far (p := ⟨aD, _, none⟩) (nb_ aR aF) _).trans (hHeld.2.2.2.2.2.2.2.2.2.2.2.2.1)))))), ((cell_far (p := ⟨aD, _, none⟩) (nb_ aQ aF) _).trans (((cell_far (p := ⟨aD, _, none⟩) (nb_ aQ aF) _).trans (((cell_far (p := ⟨aD, _, none⟩) (nb_ aQ aF) _).trans (hHeld.2.2.2.2.2.2.2.2.2.2.2.2.2))))))⟩ (fun hHeld => ?_)
         clear hK K; refine one_ (i := 13) (N := none) (mB 14 16383) rfl rfl (one_of HT_.out (by kernel_rfl)) (by decide) (fun K hK => ?_); have hs35 : aL.cell? ⟨aH, 0, none⟩ = some (.int .i64 0) := bc_ aI 0; have hfs35 := blk_frozen aI.out 0; have hns35_0 := aV.out; have hns35_1 := aW.out; have hns35_2 := aX.out; have hms35_0 := bH.out; have hms35_1 := bI.out; have hms35_2 := aY.out; have hs36 : aL.cell? ⟨aH, 1, none⟩ = some (.slice none 0 0) := bc_ aI 1; have hfs36 := blk_frozen aI.out 1; have hns36_0 := aV.out; have hns36_1 := aW.out; have hns36_2 := aX.out; have hms36_0 := bH.out; have hms36_1 := bI.out; have hms36_2 := aY.out; have hs37 : aL.cell? ⟨aH, 2, none⟩ = some (.string (⟨#[]⟩ : ByteArray)) := bc_ aI 2; have hfs37 := blk_frozen aI.out 2; have hns37_0 := aV.out; have hns37_1 := aW.out; have hns37_2 := aX.out; have hms37_0 := bH.out; have hms37_1 := bI.out; have hms37_2 := aY.out; refine skip_ (w1 := ?_) (by rfl) rfl ?_ ?_; rotate_left
         ·go_simp; rfl
         refine hK.out _ _ ⟨((cell_far (p := ⟨aH, _, none⟩) aV.out _).trans (((cell_far (p := ⟨aH, _, none⟩) aV.out _).trans (((cell_far (p := ⟨aH, _, none⟩) aV.out _).trans (hHeld.1)))))), ((cell_far (p := ⟨aH, _, none⟩) aV.out _).trans (((cell_far (p := ⟨aH, _, none⟩) aV.out _).trans (((cell_far (p := ⟨aH, _, none⟩) aV.out _).trans (hHeld.2.1)))))), ((cell_far (p := ⟨aH, _, none⟩) aV.out _).trans (((cell_far (p := ⟨aH, _, none⟩) aV.out _).trans (((cell_far (p := ⟨aH, _, none⟩) aV.out _).trans (hHeld.2.2.1)))))), ((cell_far (p := ⟨aH, _, none⟩) aV.out _).trans (((cell_far (p := ⟨aH, _, none⟩) aV.out _).trans (((cell_far (p := ⟨aH, _, none⟩) aV.out _).trans (hHeld.2.2.2.1)))))), ((cell_far (p := ⟨aH, _, none⟩) aW.out _).trans (((cell_far (p := ⟨aH, _, none⟩) aW.out _).trans (((cell_far (p := ⟨aH, _, none⟩) aW.out _).trans (hHeld.2.2.2.2.1)))))), ((cell_far (p := ⟨aH, _, none⟩) aW.out _).trans (((cell_far (p := ⟨aH, _, none⟩) aW.out _).trans (((cell_far (p := ⟨aH, _, none⟩) aW.out _).trans (hHeld.2.2.2.2.2.1)))))), ((cell_far (p := ⟨aH, _, none⟩) aW.out _).trans (((cell_far (p := ⟨aH, _, none⟩) aW.out _).trans (((cell_far (p := ⟨aH, _, none⟩) aW.out _).trans (hHeld.2.2.2.2.2.2.1)))))), ((cell_far (p := ⟨aH, _, none⟩) aW.out _).trans (((cell_far (p := ⟨aH, _, none⟩) aW.out _).trans (((cell_far (p := ⟨aH, _, none⟩) aW.out _).trans (hHeld.2.2.2.2.2.2.2.1)))))), ((cell_far (p := ⟨aH, _, none⟩) (nb_ aP aG) _).trans (((cell_far (p := ⟨aH, _, none⟩) (nb_ aP aG) _).trans (((cell_far (p := ⟨aH, _, none⟩) (nb_ aP aG) _).trans (hHeld.2.2.2.2.2.2.2.2.1)))))), ((cell_far (p := ⟨aH, _, none⟩) (nb_ aO aG) _).trans (((cell_far (p := ⟨aH, _, none⟩) (nb_ aO aG) _).trans (((cell_far (p := ⟨aH, _, none⟩) (nb_ aO aG) _).trans (hHeld.2.2.2.2.2.2.2.2.2.1)))))), ((cell_far (p := ⟨aH, _, none⟩) (nb_ aN aG) _).trans (((cell_far (p := ⟨aH, _, none⟩) (nb_ aN aG) _).trans (((cell_far (p := ⟨aH, _, none⟩) (nb_ aN aG) _).trans (hHeld.2.2.2.2.2.2.2.2.2.2.1)))))), ((cell_far (p := ⟨aH, _, none⟩) (nb_ aS aG) _).trans (((cell_far (p := ⟨aH, _, none⟩) (nb_ aS aG) _).trans (((cell_far (p := ⟨aH, _, none⟩) (nb_ aS aG) _).trans (hHeld.2.2.2.2.2.2.2.2.2.2.2.1)))))), ((cell_far (p := ⟨aH, _, none⟩) (nb_ aR aG) _).trans (((cell_far (p := ⟨aH, _, none⟩) (nb_ aR aG) _).trans (((cell_far (p := ⟨aH, _, none⟩) (nb_ aR aG) _).trans (hHeld.2.2.2.2.2.2.2.2.2.2.2.2.1)))))), ((cell_far (p := ⟨aH, _, none⟩) (nb_ aQ aG) _).trans (((cell_far (p := ⟨aH, _, none⟩) (nb_ aQ aG) _).trans (((cell_far (p := ⟨aH, _, none⟩) (nb_ aQ aG) _).trans (hHeld.2.2.2.2.2.2.2.2.2.2.2.2.2))))))⟩ (fun hHeld => ?_)
         clear hK K; refine done_ (done_of HT_.out (by kernel_rfl)) ?_
         go_upto_region 7 with (fail)
         go_cut [74] (fun jL wc => ∃ (kq : Nat) (gI : Bool), jL = .bool gI ∧ Aside0 (rillmeterref22_Equal.j2 kq aA gI a0_0 a0_1 a0_2 l0_3 a1_0 a1_1 a1_2 l1_3 ((rd_T93 l0_3 aA).f0) ((rd_T93 l0_3 aA).f1) ((rd_T93 l0_3 aA).f2) ((rd_T93 l1_3 aA).f0) ((rd_T93 l1_3 aA).f1) ((rd_T93 l1_3 aA).f2) = some r) ∧ Aside0 (kq ≤ k2) ∧ Aside0 (wc.heap[aK]? = some (.cells #[.int .i64 a0_0, .int .i64 a0_1, .int .i64 a0_2, (.slice (some aZ) l0_3.length c0_3)] 58 (0, 0))) ∧ Aside0 (wc.heap[aM]? = some (.cells #[.int .i64 a1_0, .int .i64 a1_1, .int .i64 a1_2, (.slice (some bA) l1_3.length c1_3)] 58 (0, 0))) ∧ Aside0 (wc.heap[aD]? = some (.cells #[.int .i64 ((rd_T93 l0_3 aA).f0), (.slice A405_1 ((rd_T93 l0_3 aA).f1).length c405_1), .string ((rd_T93 l0_3 aA).f2)] 93 (0, 0))) ∧ Aside0 (wc.heap[aH]? = some (.cells #[.int .i64 ((rd_T93 l1_3 aA).f0), (.slice A406_1 ((rd_T93 l1_3 aA).f1).length c406_1), .string ((rd_T93 l1_3 aA).f2)] 93 (0, 0))) ∧ Aside0 (Below w.heap.size w wc))
         case first =>
          have H := HC25.out; clear HC25
          by_cases bJ : ((rd_T93 l0_3 aA).f0) = ((rd_T93 l1_3 aA).f0)
          ·rw [if_pos bJ] at H; have cA : (((rd_T93 l0_3 aA).f0) == ((rd_T93 l1_3 aA).f0)) = true := beq_iff_eq.mpr bJ; have gX : (((rd_T93 l0_3 aA).f0) != ((rd_T93 l1_3 aA).f0)) = false := bne_eq_false_iff_eq.mpr bJ; clear bJ
           (first | rw [cA] | (simp only [i64_w, i32_w]; rw [cA]) | skip)
           by_cases bK : ((rd_T93 l0_3 aA).f2).toList = ((rd_T93 l1_3 aA).f2).toList
           ·rw [if_pos bK] at H; have gY : (((rd_T93 l0_3 aA).f2).toList == ((rd_T93 l1_3 aA).f2).toList) = true := beq_iff_eq.mpr bK; have gZ : (((rd_T93 l0_3 aA).f2).toList != ((rd_T93 l1_3 aA).f2).toList) = false := bne_eq_false_iff_eq.mpr bK; clear bK; have H' := mk_ H; clear H; have lW := bB.out; have lX := aT.out; have lY := bC.out; have lZ := aU.out; have mA := aX.out; have mC := aY.out; have hQ : aL.cell? ⟨aD, 0, none⟩ = some (.int .i64 0) := bc_ aE 0; have hR : aL.cell? ⟨aD, 1, none⟩ = some (.slice none 0 0) := bc_ aE 1; have hS : aL.cell? ⟨aD, 2, none⟩ = some (.string (⟨#[]⟩ : ByteArray)) := bc_ aE 2; have hT := blk_frozen aE.out 0; have hU := blk_frozen aE.out 1; have hV := blk_frozen aE.out 2; have mD := bH.out; have mE := aV.out; have mF := bI.out; have mG := aW.out; have hW : aL.cell? ⟨aH, 0, none⟩ = some (.int .i64 0) := bc_ aI 0; have hX : aL.cell? ⟨aH, 1, none⟩ = some (.slice none 0 0) := bc_ aI 1; have hY : aL.cell? ⟨aH, 2, none⟩ = some (.string (⟨#[]⟩ : ByteArray)) := bc_ aI 2; have hZ := blk_frozen aI.out 0; have iA := blk_frozen aI.out 1; have iB := blk_frozen aI.out 2
            go_wp2
            go_meet
            case rel => exact ⟨_, (((((rd_T93 l0_3 aA).f1).length : Int) != (((rd_T93 l1_3 aA).f1).length : Int))), (by first | rfl | (simp; done) | (simp [*]; done)), H', ⟨by have := HJ2.out; have := HK2.out; first | omega | exact Nat.le_refl _⟩, ⟨fb_⟩, ⟨fb_⟩, ⟨by (with_reducible repeat (first | refine blk_drewN ?_ _ | refine blk_drew ?_ | refine blk_alloc ?_ _)); refine blk_far ?_ aX.out _; (with_reducible repeat (first | refine blk_drewN ?_ _ | refine blk_drew ?_ | refine blk_alloc ?_ _)); refine blk_far ?_ aX.out _; (with_reducible repeat (first | refine blk_drewN ?_ _ | refine blk_drew ?_ | refine blk_alloc ?_ _)); refine blk_far ?_ aX.out _; (with_reducible repeat (first | refine blk_drewN ?_ _ | refine blk_drew ?_ | refine blk_alloc ?_ _)); refine blk_put (cs := #[.int .i64 ((rd_T93 l0_3 aA).f0), .slice A405_1 ((rd_T93 l0_3 aA).f1).length c405_1, .string (⟨#[]⟩ : ByteArray)]) ?_ 2 _ rfl; (with_reducible repeat (first | refine blk_drewN ?_ _ | refine blk_drew ?_ | refine blk_alloc ?_ _)); refine blk_put (cs := #[.int .i64 ((rd_T93 l0_3 aA).f0), .slice none 0 0, .string (⟨#[]⟩ : ByteArray)]) ?_ 1 _ rfl; (with_reducible repeat (first | refine blk_drewN ?_ _ | refine blk_drew ?_ | refine blk_alloc ?_ _)); refine blk_put (cs := #[.int .i64 0, .slice none 0 0, .string (⟨#[]⟩ : ByteArray)]) ?_ 0 _ rfl; (with_reducible repeat (first | refine blk_drewN ?_ _ | refine blk_drew ?_ | refine blk_alloc ?_ _)); exact aE.out⟩, ⟨by (with_reducible repeat (first | refine blk_drewN ?_ _ | refine blk_drew ?_ | refine blk_alloc ?_ _)); refine blk_put (cs := #[.int .i64 ((rd_T93 l1_3 aA).f0), .slice A406_1 ((rd_T93 l1_3 aA).f1).length c406_1, .string (⟨#[]⟩ : ByteArray)]) ?_ 2 _ rfl; (with_reducible repeat (first | refine blk_drewN ?_ _ | refine blk_drew ?_ | refine blk_alloc ?_ _)); refine blk_put (cs := #[.int .i64 ((rd_T93 l1_3 aA).f0), .slice none 0 0, .string (⟨#[]⟩ : ByteArray)]) ?_ 1 _ rfl; (with_reducible repeat (first | refine blk_drewN ?_ _ | refine blk_drew ?_ | refine blk_alloc ?_ _)); refine blk_put (cs := #[.int .i64 0, .slice none 0 0, .string (⟨#[]⟩ : ByteArray)]) ?_ 0 _ rfl; (with_reducible repeat (first | refine blk_drewN ?_ _ | refine blk_drew ?_ | refine blk_alloc ?_ _)); refine blk_far ?_ aY.out _; (with_reducible repeat (first | refine blk_drewN ?_ _ | refine blk_drew ?_ | refine blk_alloc ?_ _)); refine blk_far ?_ aY.out _; (with_reducible repeat (first | refine blk_drewN ?_ _ | refine blk_drew ?_ | refine blk_alloc ?_ _)); refine blk_far ?_ aY.out _; (with_reducible repeat (first | refine blk_drewN ?_ _ | refine blk_drew ?_ | refine blk_alloc ?_ _)); exact aI.out⟩, ⟨bl_ HB⟩⟩
           ·rw [if_neg bK] at H; have gY : (((rd_T93 l0_3 aA).f2).toList == ((rd_T93 l1_3 aA).f2).toList) = false := beq_eq_false_iff_ne.mpr bK; have gZ : (((rd_T93 l0_3 aA).f2).toList != ((rd_T93 l1_3 aA).f2).toList) = true := bne_iff_ne.mpr bK; have H' := mk_ H; clear H; have mH := bB.out; have mI := aT.out; have mJ := bC.out; have mK := aU.out; have mL := aX.out; have mM := aY.out; have iC : aL.cell? ⟨aD, 0, none⟩ = some (.int .i64 0) := bc_ aE 0; have iD : aL.cell? ⟨aD, 1, none⟩ = some (.slice none 0 0) := bc_ aE 1; have iE : aL.cell? ⟨aD, 2, none⟩ = some (.string (⟨#[]⟩ : ByteArray)) := bc_ aE 2; have iF := blk_frozen aE.out 0; have iG := blk_frozen aE.out 1; have iH := blk_frozen aE.out 2; have mN := bH.out; have mO := aV.out; have mP := bI.out; have mQ := aW.out; have iI : aL.cell? ⟨aH, 0, none⟩ = some (.int .i64 0) := bc_ aI 0; have iJ : aL.cell? ⟨aH, 1, none⟩ = some (.slice none 0 0) := bc_ aI 1; have iK : aL.cell? ⟨aH, 2, none⟩ = some (.string (⟨#[]⟩ : ByteArray)) := bc_ aI 2; have iL := blk_frozen aI.out 0; have iM := blk_frozen aI.out 1; have iN := blk_frozen aI.out 2
            go_wp2
            go_meet
            case rel => exact ⟨_, (true), (by first | rfl | (simp; done) | (simp [*]; done)), H', ⟨by have := HJ2.out; have := HK2.out; first | omega | exact Nat.le_refl _⟩, ⟨fb_⟩, ⟨fb_⟩, ⟨by (with_reducible repeat (first | refine blk_drewN ?_ _ | refine blk_drew ?_ | refine blk_alloc ?_ _)); refine blk_far ?_ aX.out _; (with_reducible repeat (first | refine blk_drewN ?_ _ | refine blk_drew ?_ | refine blk_alloc ?_ _)); refine blk_far ?_ aX.out _; (with_reducible repeat (first | refine blk_drewN ?_ _ | refine blk_drew ?_ | refine blk_alloc ?_ _)); refine blk_far ?_ aX.out _; (with_reducible repeat (first | refine blk_drewN ?_ _ | refine blk_drew ?_ | refine blk_alloc ?_ _)); refine blk_put (cs := #[.int .i64 ((rd_T93 l0_3 aA).f0), .slice A405_1 ((rd_T93 l0_3 aA).f1).length c405_1, .string (⟨#[]⟩ : ByteArray)]) ?_ 2 _ rfl; (with_reducible repeat (first | refine blk_drewN ?_ _ | refine blk_drew ?_ | refine blk_alloc ?_ _)); refine blk_put (cs := #[.int .i64 ((rd_T93 l0_3 aA).f0), .slice none 0 0, .string (⟨#[]⟩ : ByteArray)]) ?_ 1 _ rfl; (with_reducible repeat (first | refine blk_drewN ?_ _ | refine blk_drew ?_ | refine blk_alloc ?_ _)); refine blk_put (cs := #[.int .i64 0, .slice none 0 0, .string (⟨#[]⟩ : ByteArray)]) ?_ 0 _ rfl; (with_reducible repeat (first | refine blk_drewN ?_ _ | refine blk_drew ?_ | refine blk_alloc ?_ _)); exact aE.out⟩, ⟨by (with_reducible repeat (first | refine blk_drewN ?_ _ | refine blk_drew ?_ | refine blk_alloc ?_ _)); refine blk_put (cs := #[.int .i64 ((rd_T93 l1_3 aA).f0), .slice A406_1 ((rd_T93 l1_3 aA).f1).length c406_1, .string (⟨#[]⟩ : ByteArray)]) ?_ 2 _ rfl; (with_reducible repeat (first | refine blk_drewN ?_ _ | refine blk_drew ?_ | refine blk_alloc ?_ _)); refine blk_put (cs := #[.int .i64 ((rd_T93 l1_3 aA).f0), .slice none 0 0, .string (⟨#[]⟩ : ByteArray)]) ?_ 1 _ rfl; (with_reducible repeat (first | refine blk_drewN ?_ _ | refine blk_drew ?_ | refine blk_alloc ?_ _)); refine blk_put (cs := #[.int .i64 0, .slice none 0 0, .string (⟨#[]⟩ : ByteArray)]) ?_ 0 _ rfl; (with_reducible repeat (first | refine blk_drewN ?_ _ | refine blk_drew ?_ | refine blk_alloc ?_ _)); refine blk_far ?_ aY.out _; (with_reducible repeat (first | refine blk_drewN ?_ _ | refine blk_drew ?_ | refine blk_alloc ?_ _)); refine blk_far ?_ aY.out _; (with_reducible repeat (first | refine blk_drewN ?_ _ | refine blk_drew ?_ | refine blk_alloc ?_ _)); refine blk_far ?_ aY.out _; (with_reducible repeat (first | refine blk_drewN ?_ _ | refine blk_drew ?_ | refine blk_alloc ?_ _)); exact aI.out⟩, ⟨bl_ HB⟩⟩
          ·rw [if_neg bJ] at H; have cA : (((rd_T93 l0_3 aA).f0) == ((rd_T93 l1_3 aA).f0)) = false := beq_eq_false_iff_ne.mpr bJ; have gX : (((rd_T93 l0_3 aA).f0) != ((rd_T93 l1_3 aA).f0)) = true := bne_iff_ne.mpr bJ
           (first | rw [cA] | (simp only [i64_w, i32_w]; rw [cA]) | skip)
           have H' := mk_ H; clear H; have mR := bB.out; have mS := aT.out; have mT := bC.out; have mU := aU.out; have mV := aX.out; have mW := aY.out; have iO : aL.cell? ⟨aD, 0, none⟩ = some (.int .i64 0) := bc_ aE 0; have iP : aL.cell? ⟨aD, 1, none⟩ = some (.slice none 0 0) := bc_ aE 1; have iQ : aL.cell? ⟨aD, 2, none⟩ = some (.string (⟨#[]⟩ : ByteArray)) := bc_ aE 2; have iR := blk_frozen aE.out 0; have iS := blk_frozen aE.out 1; have iT := blk_frozen aE.out 2; have mX := bH.out; have mY := aV.out; have mZ := bI.out; have nA := aW.out; have iU : aL.cell? ⟨aH, 0, none⟩ = some (.int .i64 0) := bc_ aI 0; have iV : aL.cell? ⟨aH, 1, none⟩ = some (.slice none 0 0) := bc_ aI 1; have iW : aL.cell? ⟨aH, 2, none⟩ = some (.string (⟨#[]⟩ : ByteArray)) := bc_ aI 2; have iX := blk_frozen aI.out 0; have iY := blk_frozen aI.out 1; have iZ := blk_frozen aI.out 2
           go_wp2
           go_meet
           case rel => exact ⟨_, (true), (by first | rfl | (simp; done) | (simp [*]; done)), H', ⟨by have := HJ2.out; have := HK2.out; first | omega | exact Nat.le_refl _⟩, ⟨fb_⟩, ⟨fb_⟩, ⟨by (with_reducible repeat (first | refine blk_drewN ?_ _ | refine blk_drew ?_ | refine blk_alloc ?_ _)); refine blk_far ?_ aX.out _; (with_reducible repeat (first | refine blk_drewN ?_ _ | refine blk_drew ?_ | refine blk_alloc ?_ _)); refine blk_far ?_ aX.out _; (with_reducible repeat (first | refine blk_drewN ?_ _ | refine blk_drew ?_ | refine blk_alloc ?_ _)); refine blk_far ?_ aX.out _; (with_reducible repeat (first | refine blk_drewN ?_ _ | refine blk_drew ?_ | refine blk_alloc ?_ _)); refine blk_put (cs := #[.int .i64 ((rd_T93 l0_3 aA).f0), .slice A405_1 ((rd_T93 l0_3 aA).f1).length c405_1, .string (⟨#[]⟩ : ByteArray)]) ?_ 2 _ rfl; (with_reducible repeat (first | refine blk_drewN ?_ _ | refine blk_drew ?_ | refine blk_alloc ?_ _)); refine blk_put (cs := #[.int .i64 ((rd_T93 l0_3 aA).f0), .slice none 0 0, .string (⟨#[]⟩ : ByteArray)]) ?_ 1 _ rfl; (with_reducible repeat (first | refine blk_drewN ?_ _ | refine blk_drew ?_ | refine blk_alloc ?_ _)); refine blk_put (cs := #[.int .i64 0, .slice none 0 0, .string (⟨#[]⟩ : ByteArray)]) ?_ 0 _ rfl; (with_reducible repeat (first | refine blk_drewN ?_ _ | refine blk_drew ?_ | refine blk_alloc ?_ _)); exact aE.out⟩, ⟨by (with_reducible repeat (first | refine blk_drewN ?_ _ | refine blk_drew ?_ | refine blk_alloc ?_ _)); refine blk_put (cs := #[.int .i64 ((rd_T93 l1_3 aA).f0), .slice A406_1 ((rd_T93 l1_3 aA).f1).length c406_1, .string (⟨#[]⟩ : ByteArray)]) ?_ 2 _ rfl; (with_reducible repeat (first | refine blk_drewN ?_ _ | refine blk_drew ?_ | refine blk_alloc ?_ _)); refine blk_put (cs := #[.int .i64 ((rd_T93 l1_3 aA).f0), .slice none 0 0, .string (⟨#[]⟩ : ByteArray)]) ?_ 1 _ rfl; (with_reducible repeat (first | refine blk_drewN ?_ _ | refine blk_drew ?_ | refine blk_alloc ?_ _)); refine blk_put (cs := #[.int .i64 0, .slice none 0 0, .string (⟨#[]⟩ : ByteArray)]) ?_ 0 _ rfl; (with_reducible repeat (first | refine blk_drewN ?_ _ | refine blk_drew ?_ | refine blk_alloc ?_ _)); refine blk_far ?_ aY.out _; (with_reducible repeat (first | refine blk_drewN ?_ _ | refine blk_drew ?_ | refine blk_alloc ?_ _)); refine blk_far ?_ aY.out _; (with_reducible repeat (first | refine blk_drewN ?_ _ | refine blk_drew ?_ | refine blk_alloc ?_ _)); refine blk_far ?_ aY.out _; (with_reducible repeat (first | refine blk_drewN ?_ _ | refine blk_drew ?_ | refine blk_alloc ?_ _)); exact aI.out⟩, ⟨bl_ HB⟩⟩
         case rest =>
          clear HC25; (try clear c1); (try clear c2); (try clear p2); (try clear c3); (try clear c4); (try clear p4); (try clear q4); (try clear hx4); (try clear c5); (try clear gR); (try clear gS); (try clear bT); (try clear bR); (try clear gU); (try clear cH); (try clear hD); (try clear cI); (try clear hE); (try clear jM); (try clear bJ); (try clear cA); (try clear gX); (try clear bK); (try clear gY); (try clear gZ); (try clear jN); (try clear jA); (try clear jB); (try clear hx40); (try clear jO); (try clear jP); (try clear jQ); (try clear jR); (try clear jS); (try clear jT); (try clear jU); (try clear jV); (try clear jW); (try clear jX); (try clear jY); (try clear jZ); (try clear lA); (try clear lB); (try clear cU); (try clear cV); (try clear cW); (try clear cX); (try clear dC); (try clear dD); (try clear dE); (try clear dF); (try clear dK); (try clear dL); (try clear dM); (try clear dN); (try clear dS); (try clear dT); (try clear dU); (try clear dV); (try clear fA); (try clear fB); (try clear fC); (try clear fD); (try clear fI); (try clear fJ); (try clear fK); (try clear fL); (try clear fQ); (try clear fR); (try clear fS); (try clear fT); (try clear fY); (try clear fZ); (try clear gA); (try clear gB); (try clear hF); (try clear hG)
          (try clear hH); (try clear hI); (try clear hQ); (try clear hR); (try clear hS); (try clear hW); (try clear hX); (try clear hY); (try clear iC); (try clear iD); (try clear iE); (try clear iI); (try clear iJ); (try clear iK); (try clear iO); (try clear iP); (try clear iQ); (try clear iU); (try clear iV); (try clear iW); (try clear cY); (try clear cZ); (try clear dA); (try clear dB); (try clear dG); (try clear dH); (try clear dI); (try clear dJ); (try clear dO); (try clear dP); (try clear dQ); (try clear dR); (try clear dW); (try clear dX); (try clear dY); (try clear dZ); (try clear fE); (try clear fF); (try clear fG); (try clear fH); (try clear fM); (try clear fN); (try clear fO); (try clear fP); (try clear fU); (try clear fV); (try clear fW); (try clear fX); (try clear gC); (try clear gD); (try clear gE); (try clear gF); (try clear hJ); (try clear hL); (try clear hM); (try clear hN); (try clear hT); (try clear hU); (try clear hV); (try clear hZ); (try clear iA); (try clear iB); (try clear iF); (try clear iG); (try clear iH); (try clear iL); (try clear iM); (try clear iN); (try clear iR); (try clear iS)
          (try clear iT); (try clear iX); (try clear iY); (try clear iZ); (try clear bU); (try clear bV); (try clear bW); (try clear bX); (try clear bY); (try clear bZ); (try clear p2); (try clear cK); (try clear cM); (try clear cL); (try clear cN); obtain ⟨kq, gI, rfl, HA, HJ24, aB, aC, aE, aI, HB⟩ := hcut
          cases kq with
          | zero => exact absurd HA.out (by simp [rillmeterref22_Equal.j2])
          | succ hA =>
           have H := HA.out; clear HA; simp only [rillmeterref22_Equal.j2] at H
           by_cases cO : gI = true
           ·subst cO
            have H1 : (some false) = some r := by rw [if_pos rfl] at H; exact H
            clear H; have H := H1; clear H1; obtain rfl := Option.some.inj H
            go_wp2
            go_ret; exact ⟨by first | rfl | (simp [errW_none, errW_some] <;> rfl) | (simp [*, errW_none, errW_some] <;> rfl), bl_ HB⟩
           ·replace cO := Bool.eq_false_iff.mpr cO; subst cO
            have H1 : (rillmeterref22_Equal.l1 hA aA 0 a0_0 a0_1 a0_2 l0_3 a1_0 a1_1 a1_2 l1_3 ((rd_T93 l0_3 aA).f0) ((rd_T93 l0_3 aA).f1) ((rd_T93 l0_3 aA).f2) ((rd_T93 l1_3 aA).f0) ((rd_T93 l1_3 aA).f1) ((rd_T93 l1_3 aA).f2)) = some r := by rw [if_neg (show ¬ (false = true) by decide)] at H; exact H
            clear H; have H := H1; clear H1; have H' := mk_ H; clear H
            go_wp2
            go_loopg [8] hA (fun kq v8 w' => ∃ (aJ : Int), v8 = .int .i64 aJ ∧ Aside0 (rillmeterref22_Equal.l1 kq aA aJ a0_0 a0_1 a0_2 l0_3 a1_0 a1_1 a1_2 l1_3 ((rd_T93 l0_3 aA).f0) ((rd_T93 l0_3 aA).f1) ((rd_T93 l0_3 aA).f2) ((rd_T93 l1_3 aA).f0) ((rd_T93 l1_3 aA).f1) ((rd_T93 l1_3 aA).f2) = some r) ∧ Aside0 (kq ≤ hA) ∧ Aside0 (w'.heap[aK]? = some (.cells #[.int .i64 a0_0, .int .i64 a0_1, .int .i64 a0_2, (.slice (some aZ) l0_3.length c0_3)] 58 (0, 0))) ∧ Aside0 (w'.heap[aM]? = some (.cells #[.int .i64 a1_0, .int .i64 a1_1, .int .i64 a1_2, (.slice (some bA) l1_3.length c1_3)] 58 (0, 0))) ∧ Aside0 (w'.heap[aD]? = some (.cells #[.int .i64 ((rd_T93 l0_3 aA).f0), (.slice A405_1 ((rd_T93 l0_3 aA).f1).length c405_1), .string ((rd_T93 l0_3 aA).f2)] 93 (0, 0))) ∧ Aside0 (w'.heap[aH]? = some (.cells #[.int .i64 ((rd_T93 l1_3 aA).f0), (.slice A406_1 ((rd_T93 l1_3 aA).f1).length c406_1), .string ((rd_T93 l1_3 aA).f2)] 93 (0, 0))) ∧ Aside0 (Below w.heap.size w w'))
            case atStart => exact ⟨(0), (by first | rfl | (simp; done) | (simp [*]; done)), H', ⟨Nat.le_refl _⟩, ⟨bk_ aB⟩, ⟨bk_ aC⟩, ⟨bk_ aE⟩, ⟨bk_ aI⟩, ⟨bl_ HB⟩⟩
            case round =>
             clear H'; (try clear c1); (try clear c2); (try clear p2); (try clear c3); (try clear c4); (try clear p4); (try clear q4); (try clear hx4); (try clear c5); (try clear c6); (try clear gR); (try clear gS); (try clear bT); (try clear bR); (try clear gU); (try clear cH); (try clear hD); (try clear cI); (try clear hE); (try clear jM); (try clear bJ); (try clear cA); (try clear gX); (try clear bK); (try clear gY); (try clear gZ); (try clear jN); (try clear jA); (try clear jB); (try clear hx40); (try clear jO); (try clear jP); (try clear jQ); (try clear jR); (try clear jS); (try clear jT); (try clear jU); (try clear jV); (try clear jW); (try clear jX); (try clear jY); (try clear jZ); (try clear lA); (try clear lB); (try clear cO); (try clear cU); (try clear cV); (try clear cW); (try clear cX); (try clear dC); (try clear dD); (try clear dE); (try clear dF); (try clear dK); (try clear dL); (try clear dM); (try clear dN); (try clear dS); (try clear dT); (try clear dU); (try clear dV); (try clear fA); (try clear fB); (try clear fC); (try clear fD); (try clear fI); (try clear fJ); (try clear fK); (try clear fL); (try clear fQ); (try clear fR); (try clear fS); (try clear fT); (try clear fY); (try clear fZ); (try clear gA); (try clear gB); (try clear hF)
             (try clear hG); (try clear hH); (try clear hI); (try clear hQ); (try clear hR); (try clear hS); (try clear hW); (try clear hX); (try clear hY); (try clear iC); (try clear iD); (try clear iE); (try clear iI); (try clear iJ); (try clear iK); (try clear iO); (try clear iP); (try clear iQ); (try clear iU); (try clear iV); (try clear iW); (try clear cY); (try clear cZ); (try clear dA); (try clear dB); (try clear dG); (try clear dH); (try clear dI); (try clear dJ); (try clear dO); (try clear dP); (try clear dQ); (try clear dR); (try clear dW); (try clear dX); (try clear dY); (try clear dZ); (try clear fE); (try clear fF); (try clear fG); (try clear fH); (try clear fM); (try clear fN); (try clear fO); (try clear fP); (try clear fU); (try clear fV); (try clear fW); (try clear fX); (try clear gC); (try clear gD); (try clear gE); (try clear gF); (try clear hJ); (try clear hL); (try clear hM); (try clear hN); (try clear hT); (try clear hU); (try clear hV); (try clear hZ); (try clear iA); (try clear iB); (try clear iF); (try clear iG); (try clear iH); (try clear iL); (try clear iM); (try clear iN); (try clear iR)
             (try clear iS); (try clear iT); (try clear iX); (try clear iY); (try clear iZ); (try clear bU); (try clear bV); (try clear bW); (try clear bX); (try clear bY); (try clear bZ); (try clear p2); (try clear p4); (try clear jA); (try clear cK); (try clear cM); (try clear q4); (try clear jB); (try clear cL); (try clear cN); obtain ⟨aJ, rfl, HA, HK4, aB, aC, aE, aI, HB⟩ := hrel
             cases gk with
             | zero => exact absurd HA.out (by simp [rillmeterref22_Equal.l1])
             | succ k4 =>
              have H := HA.out; clear HA; simp only [rillmeterref22_Equal.l1] at H
              by_cases cJ : aJ < (((rd_T93 l0_3 aA).f1).length : Int)
              ·rw [if_pos cJ] at H; have lC : decide (aJ < (((rd_T93 l0_3 aA).f1).length : Int)) = true := decide_eq_true cJ; clear cJ
               by_cases gJ : 0 ≤ aJ
               ·rw [if_pos gJ] at H; have nB : decide (0 ≤ aJ) = true := decide_eq_true gJ; clear gJ
                by_cases gK : aJ < (((rd_T93 l1_3 aA).f1).length : Int)
                ·rw [if_pos gK] at H; have nC : decide (aJ < (((rd_T93 l1_3 aA).f1).length : Int)) = true := decide_eq_true gK; clear gK; replace H := Option.bind_eq_some_iff.mp H; obtain ⟨jC, jD, H⟩ := H; replace H : (if jC = true then (rillmeterref22_Equal.l1 k4 aA (wrap64 (aJ + 1)) a0_0 a0_1 a0_2 l0_3 a1_0 a1_1 a1_2 l1_3 ((rd_T93 l0_3 aA).f0) ((rd_T93 l0_3 aA).f1) ((rd_T93 l0_3 aA).f2) ((rd_T93 l1_3 aA).f0) ((rd_T93 l1_3 aA).f1) ((rd_T93 l1_3 aA).f2)) else (some false)) = some r := H; have jE := mk_ jD; clear jD
                 by_cases gL : jC = true
                 ·subst gL
                  have H1 : (rillmeterref22_Equal.l1 k4 aA (wrap64 (aJ + 1)) a0_0 a0_1 a0_2 l0_3 a1_0 a1_1 a1_2 l1_3 ((rd_T93 l0_3 aA).f0) ((rd_T93 l0_3 aA).f1) ((rd_T93 l0_3 aA).f2) ((rd_T93 l1_3 aA).f0) ((rd_T93 l1_3 aA).f1) ((rd_T93 l1_3 aA).f2)) = some r := by rw [if_pos rfl] at H; exact H
                  clear H; have H := H1; clear H1; have H' := mk_ H; clear H; have nD := bB.out; have nE := aT.out; have nF := bC.out; have nG := aU.out; have nH := aX.out; have nI := aY.out; have nJ : wr.cell? ⟨aD, 0, none⟩ = some (.int .i64 ((rd_T93 l0_3 aA).f0)) := bc_ aE 0; have nK : wr.cell? ⟨aD, 1, none⟩ = some (.slice A405_1 ((rd_T93 l0_3 aA).f1).length c405_1) := bc_ aE 1; have nL : wr.cell? ⟨aD, 2, none⟩ = some (.string ((rd_T93 l0_3 aA).f2)) := bc_ aE 2; have nM := blk_frozen aE.out 0; have nN := blk_frozen aE.out 1; have nO := blk_frozen aE.out 2
                  try go_wp2
                  replace aB := bd_ aB; replace aC := bd_ aC; replace aE := bd_ aE; replace aI := bd_ aI; replace HB := mk_ (below_drew1 HB.out); have cB : 0 ≤ (aJ : Int) := of_decide_eq_true (by first | (with_reducible assumption) | assumption); have cC : aJ < (((rd_T93 l0_3 aA).f1).length : Int) := of_decide_eq_true (by first | (with_reducible assumption) | assumption); obtain ⟨bL, A409_1, c409_1, e409, bD, bE, cP, hi409_1⟩ := at_T46 gV.out aJ cB cC; have bM := bE; have bN := bD
                  cases e409; (try replace bD := bt_ HB bD); (try replace bE := bt_ HB bE); have cQ := mk_ hi409_1; have hB := mk_ cP; clear hi409_1 cP; replace cB := eq_true cB; replace cC := eq_true cC; have cD : 0 ≤ (aJ : Int) := of_decide_eq_true (by first | (with_reducible assumption) | assumption); have cE : aJ < (((rd_T93 l1_3 aA).f1).length : Int) := of_decide_eq_true (by first | (with_reducible assumption) | assumption); obtain ⟨bO, A410_1, c410_1, e410, bF, bG, cR, hi410_1⟩ := at_T46 gW.out aJ cD cE; have bP := bG; have bQ := bF
                  cases e410; (try replace bF := bt_ HB bF); (try replace bG := bt_ HB bG); have cS := mk_ hi410_1; have hC := mk_ cR; clear hi410_1 cR; replace cD := eq_true cD; replace cE := eq_true cE
                  refine start_ (n := 12) (S := fun w' => w'.cell? ⟨aD, 0, none⟩ = some (.int .i64 ((rd_T93 l0_3 aA).f0)) ∧ w'.cell? ⟨aD, 1, none⟩ = some (.slice (some bL) ((rd_T93 l0_3 aA).f1).length c405_1) ∧ w'.cell? ⟨aD, 2, none⟩ = some (.string ((rd_T93 l0_3 aA).f2)) ∧ w'.cell? ⟨aH, 0, none⟩ = some (.int .i64 ((rd_T93 l1_3 aA).f0)) ∧ w'.cell? ⟨aH, 1, none⟩ = some (.slice (some bO) ((rd_T93 l1_3 aA).f1).length c406_1) ∧ w'.cell? ⟨aH, 2, none⟩ = some (.string ((rd_T93 l1_3 aA).f2)) ∧ w'.cell? (bL.add ((aJ).toNat * 2)) = some (.int .i64 ((rd_T46 ((rd_T93 l0_3 aA).f1) aJ).f0)) ∧ w'.cell? ⟨(bL.add ((aJ).toNat * 2)).block, (bL.add ((aJ).toNat * 2)).off + 1, none⟩ = some (.slice A409_1 ((rd_T46 ((rd_T93 l0_3 aA).f1) aJ).f1).length c409_1) ∧ w'.cell? (bO.add ((aJ).toNat * 2)) = some (.int .i64 ((rd_T46 ((rd_T93 l1_3 aA).f1) aJ).f0)) ∧ w'.cell? ⟨(bO.add ((aJ).toNat * 2)).block, (bO.add ((aJ).toNat * 2)).off + 1, none⟩ = some (.slice A410_1 ((rd_T46 ((rd_T93 l1_3 aA).f1) aJ).f1).length c410_1)) (ds := []) (mB 12 0) (by kernel_rfl) rfl rfl ⟨bc_ aE 0, bc_ aE 1, bc_ aE 2, bc_ aI 0, bc_ aI 1, bc_ aI 2, ((HB.out.cell (World.block_lt_of_cell? w _ bN)).trans bN), ((HB.out.cell (World.block_lt_of_cell? w _ bM)).trans bM), ((HB.out.cell (World.block_lt_of_cell? w _ bQ)).trans bQ), ((HB.out.cell (World.block_lt_of_cell? w _ bP)).trans bP)⟩ (fun hHeld => ?_); refine with_tabW rillmeterref22_Equal.tab12 rillmeterref22_Equal.bits12 (fun HT_ HW_ => ?_)
                  generalize wr.drew = nP at aB aC aE aI HB cQ cS bD bE bF bG hHeld ⊢; refine pw_ 0 82 (v := ?_) (a' := ?_) (mB 12 1) rfl rfl HT_ (by kernel_rfl) (fun _ _ _ h => h) ?_ ?_ ?_; rotate_left
                  ·intro w'; go_simp; with_reducible rfl
                  rotate_left
                  ·simp only [Act.put, sa_, sb_, sc_, i64_w, i32_w]; rfl
                  refine pw_ 2 84 (v := ?_) (a' := ?_) (mB 12 5) rfl rfl HT_ (by kernel_rfl) (fun _ _ _ h => h) ?_ ?_ ?_; rotate_left
                  ·intro w'; go_simp; with_reducible rfl
                  rotate_left
                  ·simp only [Act.put, sa_, sb_, sc_, i64_w, i32_w]; rfl
                  refine pw_ 5 87 (v := ?_) (a' := ?_) (mB 12 37) rfl rfl HT_ (by kernel_rfl) (fun _ _ _ h => h) ?_ ?_ ?_; rotate_left
                  ·intro w'; go_simp; with_reducible rfl
                  rotate_left
                  ·simp only [Act.put, sa_, sb_, sc_, i64_w, i32_w]; rfl
                  refine pw_ 7 89 (v := ?_) (a' := ?_) (mB 12 165) rfl rfl HT_ (by kernel_rfl) (fun _ _ _ h => h) ?_ ?_ ?_; rotate_left
                  ·intro w'; go_simp; with_reducible rfl
                  rotate_left
                  ·simp only [Act.put, sa_, sb_, sc_, i64_w, i32_w]; rfl
                  refine take_ (i := 1) (N := some 83) (v := ?_) (a' := ?_) (mB 12 167) rfl rfl (take_ofW HT_.out HW_.out (by kernel_rfl)) (fun _ _ _ h => h) (Or.inl ⟨by rfl, ?_⟩) hHeld ?_ ?_; rotate_left
                  ·rintro w' ⟨s0, s1, s2, s3, s4, s5, s6, s7, s8, s9⟩; go_simp; with_reducible rfl
                  rotate_left
                  ·simp only [Act.put, sa_, sb_, sc_, i64_w, i32_w]; rfl
                  refine pw_ 3 85 (v := ?_) (a' := ?_) (mB 12 175) rfl rfl HT_ (by kernel_rfl) (fun _ _ _ h => h) ?_ ?_ ?_; rotate_left
                  ·intro w'; go_simp; with_reducible rfl
                  rotate_left
                  ·simp only [Act.put, sa_, sb_, sc_, i64_w, i32_w]; rfl
                  refine take_ (i := 4) (N := some 86) (v := ?_) (a' := ?_) (mB 12 191) rfl rfl (take_ofW HT_.out HW_.out (by kernel_rfl)) (fun _ _ _ h => h) (Or.inl ⟨by rfl, ?_⟩) hHeld ?_ ?_; rotate_left
                  ·rintro w' ⟨s0, s1, s2, s3, s4, s5, s6, s7, s8, s9⟩; go_simp; with_reducible rfl
                  rotate_left
                  ·simp only [Act.put, sa_, sb_, sc_, i64_w, i32_w]; rfl
                  refine take_ (i := 6) (N := some 88) (v := ?_) (a' := ?_) (mB 12 255) rfl rfl (take_ofW HT_.out HW_.out (by kernel_rfl)) (fun _ _ _ h => h) (Or.inl ⟨by rfl, ?_⟩) hHeld ?_ ?_; rotate_left
                  ·rintro w' ⟨s0, s1, s2, s3, s4, s5, s6, s7, s8, s9⟩; go_simp; with_reducible rfl
                  rotate_left
                  ·simp only [Act.put, sa_, sb_, sc_, i64_w, i32_w]; rfl
                  refine pw_ 8 90 (v := ?_) (a' := ?_) (mB 12 511) rfl rfl HT_ (by kernel_rfl) (fun _ _ _ h => h) ?_ ?_ ?_; rotate_left
                  ·intro w'; go_simp; with_reducible rfl
                  rotate_left
                  ·simp only [Act.put, sa_, sb_, sc_, i64_w, i32_w]; rfl
                  refine take_ (i := 9) (N := some 91) (v := ?_) (a' := ?_) (mB 12 1023) rfl rfl (take_ofW HT_.out HW_.out (by kernel_rfl)) (fun _ _ _ h => h) (Or.inl ⟨by rfl, ?_⟩) hHeld ?_ ?_; rotate_left
                  ·rintro w' ⟨s0, s1, s2, s3, s4, s5, s6, s7, s8, s9⟩; go_simp; with_reducible rfl
                  rotate_left
                  ·simp only [Act.put, sa_, sb_, sc_, i64_w, i32_w]; rfl
                  refine one_ (i := 10) (N := some 92) (mB 12 2047) rfl rfl (one_of HT_.out (by kernel_rfl)) (by decide) (fun K hK => ?_); refine goes_ Try.func45 (by kernel_rfl) rfl #[.agg #[.int .i64 ((rd_T46 ((rd_T93 l0_3 aA).f1) aJ).f0), .slice A409_1 ((rd_T46 ((rd_T93 l0_3 aA).f1) aJ).f1).length c409_1], .agg #[.int .i64 ((rd_T46 ((rd_T93 l1_3 aA).f1) aJ).f0), .slice A410_1 ((rd_T46 ((rd_T93 l1_3 aA).f1) aJ).f1).length c410_1]] (by rfl) rfl rfl (by (try simp only [List.map_toArray, List.map_cons, List.map_nil]); first | done | rfl | (simp only [List.length_drop, List.length_take]; rfl)) ?_; with_reducible refine (rillmeterref22_Same.calls k4 ((rd_T46 ((rd_T93 l0_3 aA).f1) aJ).f0) _ _ ((rd_T46 ((rd_T93 l0_3 aA).f1) aJ).f1) ((rd_T46 ((rd_T93 l1_3 aA).f1) aJ).f0) _ _ ((rd_T46 ((rd_T93 l1_3 aA).f1) aJ).f1) true _ ?side1 ?side2 ?side3 ?side4 jE.out).mono ?_
                  (case side1 => repeat (first | exact (Kd.C_below cQ.out HB.out) | (with_reducible refine Kd.C_alloc ?_ _) | (with_reducible refine Kd.C_drewN ?_ _) | (with_reducible refine Kd.C_drew ?_))); (case side2 => exact hB.out); (case side3 => repeat (first | exact (Kd.C_below cS.out HB.out) | (with_reducible refine Kd.C_alloc ?_ _) | (with_reducible refine Kd.C_drewN ?_ _) | (with_reducible refine Kd.C_drew ?_))); (case side4 => exact hC.out); rintro e nQ ⟨rfl, hb⟩; refine ⟨_, rfl, ?_⟩; replace aB := bb_ aB hb; replace aC := bb_ aC hb; replace aE := bb_ aE hb; replace aI := bb_ aI hb; replace HB := bs_ HB hb; (try clear hb); refine hK.out _ _ ⟨bc_ aE 0, bc_ aE 1, bc_ aE 2, bc_ aI 0, bc_ aI 1, bc_ aI 2, ((HB.out.cell (World.block_lt_of_cell? w _ bN)).trans bN), ((HB.out.cell (World.block_lt_of_cell? w _ bM)).trans bM), ((HB.out.cell (World.block_lt_of_cell? w _ bQ)).trans bQ), ((HB.out.cell (World.block_lt_of_cell? w _ bP)).trans bP)⟩ (fun hHeld => ?_); clear hK K; refine norm_ (a' := ?_) ?_ ?_; rotate_left
                  ·show Act.put _ (some 92) _ = _
                   simp only [Act.put, sa_, sb_, sc_, i64_w, i32_w]; rfl
                  refine pw_ 11 93 (v := ?_) (a' := ?_) (mB 12 4095) rfl rfl HT_ (by kernel_rfl) (fun _ _ _ h => h) ?_ ?_ ?_; rotate_left
                  ·intro w'; go_simp; with_reducible rfl
                  rotate_left
                  ·simp only [Act.put, sa_, sb_, sc_, i64_w, i32_w]; rfl
                  refine done_ (done_of HT_.out (by kernel_rfl)) ?_
                  try go_wp2
                  go_roundg k4
                  case measure => have := HJ2.out; have := HK2.out; have := HJ24.out; have := HK4.out; omega
                  case rel => exact ⟨(wrap64 (aJ + 1)), (by first | rfl | (simp; done) | (simp [*]; done)), H', ⟨by have := HJ2.out; have := HK2.out; have := HJ24.out; have := HK4.out; omega⟩, ⟨bk_ aB⟩, ⟨bk_ aC⟩, ⟨bk_ aE⟩, ⟨bk_ aI⟩, ⟨bl_ HB⟩⟩
                 ·replace gL := Bool.eq_false_iff.mpr gL; subst gL
                  have H1 : (some false) = some r := by rw [if_neg (show ¬ (false = true) by decide)] at H; exact H
                  clear H; have H := H1; clear H1; obtain rfl := Option.some.inj H; have nR := bB.out; have nS := aT.out; have nT := bC.out; have nU := aU.out; have nV := aX.out; have nW := aY.out; have nX : wr.cell? ⟨aD, 0, none⟩ = some (.int .i64 ((rd_T93 l0_3 aA).f0)) := bc_ aE 0; have nY : wr.cell? ⟨aD, 1, none⟩ = some (.slice A405_1 ((rd_T93 l0_3 aA).f1).length c405_1) := bc_ aE 1; have nZ : wr.cell? ⟨aD, 2, none⟩ = some (.string ((rd_T93 l0_3 aA).f2)) := bc_ aE 2; have pA := blk_frozen aE.out 0; have pB := blk_frozen aE.out 1; have pC := blk_frozen aE.out 2
                  try go_wp2
                  replace aB := bd_ aB; replace aC := bd_ aC; replace aE := bd_ aE; replace aI := bd_ aI; replace HB := mk_ (below_drew1 HB.out); have cB : 0 ≤ (aJ : Int) := of_decide_eq_true (by first | (with_reducible assumption) | assumption); have cC : aJ < (((rd_T93 l0_3 aA).f1).length : Int) := of_decide_eq_true (by first | (with_reducible assumption) | assumption); obtain ⟨bL, A409_1, c409_1, e409, bD, bE, cP, hi409_1⟩ := at_T46 gV.out aJ cB cC; have bM := bE; have bN := bD
                  cases e409; (try replace bD := bt_ HB bD); (try replace bE := bt_ HB bE); have cQ := mk_ hi409_1; have hB := mk_ cP; clear hi409_1 cP; replace cB := eq_true cB; replace cC := eq_true cC; have cD : 0 ≤ (aJ : Int) := of_decide_eq_true (by first | (with_reducible assumption) | assumption); have cE : aJ < (((rd_T93 l1_3 aA).f1).length : Int) := of_decide_eq_true (by first | (with_reducible assumption) | assumption); obtain ⟨bO, A410_1, c410_1, e410, bF, bG, cR, hi410_1⟩ := at_T46 gW.out aJ cD cE; have bP := bG; have bQ := bF
                  cases e410; (try replace bF := bt_ HB bF); (try replace bG := bt_ HB bG); have cS := mk_ hi410_1; have hC := mk_ cR; clear hi410_1 cR; replace cD := eq_true cD; replace cE := eq_true cE
                  refine start_ (n := 12) (S := fun w' => w'.cell? ⟨aD, 0, none⟩ = some (.int .i64 ((rd_T93 l0_3 aA).f0)) ∧ w'.cell? ⟨aD, 1, none⟩ = some (.slice (some bL) ((rd_T93 l0_3 aA).f1).length c405_1) ∧ w'.cell? ⟨aD, 2, none⟩ = some (.string ((rd_T93 l0_3 aA).f2)) ∧ w'.cell? ⟨aH, 0, none⟩ = some (.int .i64 ((rd_T93 l1_3 aA).f0)) ∧ w'.cell? ⟨aH, 1, none⟩ = some (.slice (some bO) ((rd_T93 l1_3 aA).f1).length c406_1) ∧ w'.cell? ⟨aH, 2, none⟩ = some (.string ((rd_T93 l1_3 aA).f2)) ∧ w'.cell? (bL.add ((aJ).toNat * 2)) = some (.int .i64 ((rd_T46 ((rd_T93 l0_3 aA).f1) aJ).f0)) ∧ w'.cell? ⟨(bL.add ((aJ).toNat * 2)).block, (bL.add ((aJ).toNat * 2)).off + 1, none⟩ = some (.slice A409_1 ((rd_T46 ((rd_T93 l0_3 aA).f1) aJ).f1).length c409_1) ∧ w'.cell? (bO.add ((aJ).toNat * 2)) = some (.int .i64 ((rd_T46 ((rd_T93 l1_3 aA).f1) aJ).f0)) ∧ w'.cell? ⟨(bO.add ((aJ).toNat * 2)).block, (bO.add ((aJ).toNat * 2)).off + 1, none⟩ = some (.slice A410_1 ((rd_T46 ((rd_T93 l1_3 aA).f1) aJ).f1).length c410_1)) (ds := []) (mB 12 0) (by kernel_rfl) rfl rfl ⟨bc_ aE 0, bc_ aE 1, bc_ aE 2, bc_ aI 0, bc_ aI 1, bc_ aI 2, ((HB.out.cell (World.block_lt_of_cell? w _ bN)).trans bN), ((HB.out.cell (World.block_lt_of_cell? w _ bM)).trans bM), ((HB.out.cell (World.block_lt_of_cell? w _ bQ)).trans bQ), ((HB.out.cell (World.block_lt_of_cell? w _ bP)).trans bP)⟩ (fun hHeld => ?_); refine with_tabW rillmeterref22_Equal.tab12 rillmeterref22_Equal.bits12 (fun HT_ HW_ => ?_)
                  generalize wr.drew = pD at aB aC aE aI HB cQ cS bD bE bF bG hHeld ⊢; refine pw_ 0 82 (v := ?_) (a' := ?_) (mB 12 1) rfl rfl HT_ (by kernel_rfl) (fun _ _ _ h => h) ?_ ?_ ?_; rotate_left
                  ·intro w'; go_simp; with_reducible rfl
                  rotate_left
                  ·simp only [Act.put, sa_, sb_, sc_, i64_w, i32_w]; rfl
                  refine pw_ 2 84 (v := ?_) (a' := ?_) (mB 12 5) rfl rfl HT_ (by kernel_rfl) (fun _ _ _ h => h) ?_ ?_ ?_; rotate_left
                  ·intro w'; go_simp; with_reducible rfl
                  rotate_left
                  ·simp only [Act.put, sa_, sb_, sc_, i64_w, i32_w]; rfl
                  refine pw_ 5 87 (v := ?_) (a' := ?_) (mB 12 37) rfl rfl HT_ (by kernel_rfl) (fun _ _ _ h => h) ?_ ?_ ?_; rotate_left
                  ·intro w'; go_simp; with_reducible rfl
                  rotate_left
                  ·simp only [Act.put, sa_, sb_, sc_, i64_w, i32_w]; rfl
                  refine pw_ 7 89 (v := ?_) (a' := ?_) (mB 12 165) rfl rfl HT_ (by kernel_rfl) (fun _ _ _ h => h) ?_ ?_ ?_; rotate_left
                  ·intro w'; go_simp; with_reducible rfl
                  rotate_left
                  ·simp only [Act.put, sa_, sb_, sc_, i64_w, i32_w]; rfl
                  refine take_ (i := 1) (N := some 83) (v := ?_) (a' := ?_) (mB 12 167) rfl rfl (take_ofW HT_.out HW_.out (by kernel_rfl)) (fun _ _ _ h => h) (Or.inl ⟨by rfl, ?_⟩) hHeld ?_ ?_; rotate_left
                  ·rintro w' ⟨s0, s1, s2, s3, s4, s5, s6, s7, s8, s9⟩; go_simp; with_reducible rfl
                  rotate_left
                  ·simp only [Act.put, sa_, sb_, sc_, i64_w, i32_w]; rfl
                  refine pw_ 3 85 (v := ?_) (a' := ?_) (mB 12 175) rfl rfl HT_ (by kernel_rfl) (fun _ _ _ h => h) ?_ ?_ ?_; rotate_left
                  ·intro w'; go_simp; with_reducible rfl
                  rotate_left
                  ·simp only [Act.put, sa_, sb_, sc_, i64_w, i32_w]; rfl
                  refine take_ (i := 4) (N := some 86) (v := ?_) (a' := ?_) (mB 12 191) rfl rfl (take_ofW HT_.out HW_.out (by kernel_rfl)) (fun _ _ _ h => h) (Or.inl ⟨by rfl, ?_⟩) hHeld ?_ ?_; rotate_left
                  ·rintro w' ⟨s0, s1, s2, s3, s4, s5, s6, s7, s8, s9⟩; go_simp; with_reducible rfl
                  rotate_left
                  ·simp only [Act.put, sa_, sb_, sc_, i64_w, i32_w]; rfl
                  refine take_ (i := 6) (N := some 88) (v := ?_) (a' := ?_) (mB 12 255) rfl rfl (take_ofW HT_.out HW_.out (by kernel_rfl)) (fun _ _ _ h => h) (Or.inl ⟨by rfl, ?_⟩) hHeld ?_ ?_; rotate_left
                  ·rintro w' ⟨s0, s1, s2, s3, s4, s5, s6, s7, s8, s9⟩; go_simp; with_reducible rfl
                  rotate_left
                  ·simp only [Act.put, sa_, sb_, sc_, i64_w, i32_w]; rfl
                  refine pw_ 8 90 (v := ?_) (a' := ?_) (mB 12 511) rfl rfl HT_ (by kernel_rfl) (fun _ _ _ h => h) ?_ ?_ ?_; rotate_left
                  ·intro w'; go_simp; with_reducible rfl
                  rotate_left
                  ·simp only [Act.put, sa_, sb_, sc_, i64_w, i32_w]; rfl
                  refine take_ (i := 9) (N := some 91) (v := ?_) (a' := ?_) (mB 12 1023) rfl rfl (take_ofW HT_.out HW_.out (by kernel_rfl)) (fun _ _ _ h => h) (Or.inl ⟨by rfl, ?_⟩) hHeld ?_ ?_; rotate_left
                  ·rintro w' ⟨s0, s1, s2, s3, s4, s5, s6, s7, s8, s9⟩; go_simp; with_reducible rfl
                  rotate_left
                  ·simp only [Act.put, sa_, sb_, sc_, i64_w, i32_w]; rfl
                  refine one_ (i := 10) (N := some 92) (mB 12 2047) rfl rfl (one_of HT_.out (by kernel_rfl)) (by decide) (fun K hK => ?_); refine goes_ Try.func45 (by kernel_rfl) rfl #[.agg #[.int .i64 ((rd_T46 ((rd_T93 l0_3 aA).f1) aJ).f0), .slice A409_1 ((rd_T46 ((rd_T93 l0_3 aA).f1) aJ).f1).length c409_1], .agg #[.int .i64 ((rd_T46 ((rd_T93 l1_3 aA).f1) aJ).f0), .slice A410_1 ((rd_T46 ((rd_T93 l1_3 aA).f1) aJ).f1).length c410_1]] (by rfl) rfl rfl (by (try simp only [List.map_toArray, List.map_cons, List.map_nil]); first | done | rfl | (simp only [List.length_drop, List.length_take]; rfl)) ?_; with_reducible refine (rillmeterref22_Same.calls k4 ((rd_T46 ((rd_T93 l0_3 aA).f1) aJ).f0) _ _ ((rd_T46 ((rd_T93 l0_3 aA).f1) aJ).f1) ((rd_T46 ((rd_T93 l1_3 aA).f1) aJ).f0) _ _ ((rd_T46 ((rd_T93 l1_3 aA).f1) aJ).f1) false _ ?side1 ?side2 ?side3 ?side4 jE.out).mono ?_
                  (case side1 => repeat (first | exact (Kd.C_below cQ.out HB.out) | (with_reducible refine Kd.C_alloc ?_ _) | (with_reducible refine Kd.C_drewN ?_ _) | (with_reducible refine Kd.C_drew ?_))); (case side2 => exact hB.out); (case side3 => repeat (first | exact (Kd.C_below cS.out HB.out) | (with_reducible refine Kd.C_alloc ?_ _) | (with_reducible refine Kd.C_drewN ?_ _) | (with_reducible refine Kd.C_drew ?_))); (case side4 => exact hC.out); rintro e pE ⟨rfl, hb⟩; refine ⟨_, rfl, ?_⟩; replace aB := bb_ aB hb; replace aC := bb_ aC hb; replace aE := bb_ aE hb; replace aI := bb_ aI hb; replace HB := bs_ HB hb; (try clear hb); refine hK.out _ _ ⟨bc_ aE 0, bc_ aE 1, bc_ aE 2, bc_ aI 0, bc_ aI 1, bc_ aI 2, ((HB.out.cell (World.block_lt_of_cell? w _ bN)).trans bN), ((HB.out.cell (World.block_lt_of_cell? w _ bM)).trans bM), ((HB.out.cell (World.block_lt_of_cell? w _ bQ)).trans bQ), ((HB.out.cell (World.block_lt_of_cell? w _ bP)).trans bP)⟩ (fun hHeld => ?_); clear hK K; refine norm_ (a' := ?_) ?_ ?_; rotate_left
                  ·show Act.put _ (some 92) _ = _
                   simp only [Act.put, sa_, sb_, sc_, i64_w, i32_w]; rfl
                  refine pw_ 11 93 (v := ?_) (a' := ?_) (mB 12 4095) rfl rfl HT_ (by kernel_rfl) (fun _ _ _ h => h) ?_ ?_ ?_; rotate_left
                  ·intro w'; go_simp; with_reducible rfl
                  rotate_left
                  ·simp only [Act.put, sa_, sb_, sc_, i64_w, i32_w]; rfl
                  refine done_ (done_of HT_.out (by kernel_rfl)) ?_
                  try go_wp2
                  go_ret; exact ⟨by first | rfl | (simp [errW_none, errW_some] <;> rfl) | (simp [*, errW_none, errW_some] <;> rfl), bl_ HB⟩
                ·rw [if_neg gK] at H; exact absurd H (by simp)
               ·rw [if_neg gJ] at H; exact absurd H (by simp)
              ·rw [if_neg cJ] at H; have lC : decide (aJ < (((rd_T93 l0_3 aA).f1).length : Int)) = false := decide_eq_false cJ; clear cJ; have H' := mk_ H; clear H; have pF := bB.out; have pG := aT.out; have pH := bC.out; have pI := aU.out; have pJ := aX.out; have pK := aY.out; have pL : wr.cell? ⟨aD, 0, none⟩ = some (.int .i64 ((rd_T93 l0_3 aA).f0)) := bc_ aE 0; have pM : wr.cell? ⟨aD, 1, none⟩ = some (.slice A405_1 ((rd_T93 l0_3 aA).f1).length c405_1) := bc_ aE 1; have pN : wr.cell? ⟨aD, 2, none⟩ = some (.string ((rd_T93 l0_3 aA).f2)) := bc_ aE 2; have pO := blk_frozen aE.out 0; have pP := blk_frozen aE.out 1; have pQ := blk_frozen aE.out 2
               go_wp2
               go_roundg k4
               case measure => have := HJ2.out; have := HK2.out; have := HJ24.out; have := HK4.out; omega
               case rel => exact ⟨(wrap64 (aA + 1)), (by first | rfl | (simp; done) | (simp [*]; done)), H', ⟨by have := HJ2.out; have := HK2.out; have := HJ24.out; have := HK4.out; omega⟩, ⟨bk_ aB⟩, ⟨bk_ aC⟩, ⟨bl_ HB⟩⟩
        ·rw [if_neg cI] at H; exact absurd H (by simp)
       ·rw [if_neg cH] at H; exact absurd H (by simp)
      ·rw [if_neg bR] at H; have gU : decide (aA < (l0_3.length : Int)) = false := decide_eq_false bR; clear bR; obtain rfl := Option.some.inj H; have pR := cF.out; have pS := cG.out; have pT : wr.cell? ⟨aK, 0, none⟩ = some (.int .i64 a0_0) := bc_ aB 0; have pU : wr.cell? ⟨aK, 1, none⟩ = some (.int .i64 a0_1) := bc_ aB 1; have pV : wr.cell? ⟨aK, 2, none⟩ = some (.int .i64 a0_2) := bc_ aB 2; have pW : wr.cell? ⟨aK, 3, none⟩ = some (.slice A0_3 l0_3.length c0_3) := bc_ aB 3; have pX := blk_frozen aB.out 0; have pY := blk_frozen aB.out 1; have pZ := blk_frozen aB.out 2; have qA := blk_frozen aB.out 3
       go_wp2
       go_ret; exact ⟨by first | rfl | (simp [errW_none, errW_some] <;> rfl) | (simp [*, errW_none, errW_some] <;> rfl), bl_ HB⟩

end Go.Proofs.Ytojmpdjbhplgkaa.PIpfixPuts
