/- The functions that a law uses, each as a plain function, with the proof that a call of the Go function comes to its answer. Condition of each: the arguments read as the data that it names, and the plain function has an answer. Written by a program of this session (standin.py). -/
import Derived.Test.YtojmpdjbhplgkaaPIpfixPutsx0
import Derived.Test.YtojmpdjbhplgkaaPIpfixPutsx9
import Derived.Test.YtojmpdjbhplgkaaShort
import Derived.Lib.SliceRun
import Derived.Test.YtojmpdjbhplgkaaPressMore
namespace Go.Proofs.Ytojmpdjbhplgkaa.PIpfixPuts
open Go.RowKit Go.Proofs.YtojmpdjbhplgkaaW.PrintWords Go.Proofs.YtojmpdjbhplgkaaW.PrintLast Go.Proofs.YtojmpdjbhplgkaaW.PrintMore Go.Proofs.Ytojmpdjbhplgkaa.Short Go.Proofs.Ytojmpdjbhplgkaa.Press Go.Proofs.Ytojmpdjbhplgkaa.PressMore
attribute [local go_sem] max2_int min2_int max_two min_two max_three min_three max_four min_four   -- for this text's walks alone
set_option linter.unusedVariables false
set_option linter.unusedSimpArgs false

/-! ### rillmeterref22_Put: function 24 -/
mutual
def rillmeterref22_Put.l0 : Nat → ByteArray → List (S93) → Int → Int → Option (ByteArray × Bool)
  | 0, _, _, _, _ => none
  | k + 1, x4, x24, x25, x26 => if x26 < x25 then (if 0 ≤ x26 then (if x26 < (x24.length : Int) then (rillmeterref22_Put.l1 k x4 ((rd_T93 x24 x26).f2) x24 x25 x26 ((rd_T93 x24 x26).f1) (((rd_T93 x24 x26).f1).length : Int) 0 ((rd_T93 x24 x26).f0) ((rd_T93 x24 x26).f1) ((rd_T93 x24 x26).f2)) else (none)) else (none)) else (if (x4.size : Int) > 65531 then (some ((⟨#[]⟩ : ByteArray), false)) else ((rillmeterref22_num.f k 10 2).bind fun t311 => ((rillmeterref22_num.f k (wrap64 (4 + (x4.size : Int))) 2).bind fun t312 => (if t311.size + t312.size ≤ 9223372036854775807 then (if (t311 ++ t312).size + x4.size ≤ 9223372036854775807 then (some ((t311 ++ t312) ++ x4, true)) else (none)) else (none)))))
def rillmeterref22_Put.l1 : Nat → ByteArray → ByteArray → List (S93) → Int → Int → List (S46) → Int → Int → Int → List (S46) → ByteArray → Option (ByteArray × Bool)
  | 0, _, _, _, _, _, _, _, _, _, _, _ => none
  | k + 1, x4, x7, x24, x25, x26, x33, x34, x35, x298000, x298001, x298002 => if x35 < x34 then (if 0 ≤ x35 then (if x35 < (x33.length : Int) then ((rillmeterref22_num.f k ((rd_T46 x33 x35).f0) 2).bind fun t300 => (if x7.size + t300.size ≤ 9223372036854775807 then ((rillmeterref22_num.f k (((rd_T46 x33 x35).f1).length : Int) 2).bind fun t301 => (if (x7 ++ t300).size + t301.size ≤ 9223372036854775807 then (rillmeterref22_Put.l2 k x4 ((x7 ++ t300) ++ t301) x24 x25 x26 x33 x34 x35 ((rd_T46 x33 x35).f1) (((rd_T46 x33 x35).f1).length : Int) 0 x298000 x298001 x298002) else (none))) else (none))) else (none)) else (none)) else (if (x7.size : Int) > 65531 then (some ((⟨#[]⟩ : ByteArray), false)) else ((rillmeterref22_num.f k x298000 2).bind fun t309 => (if x4.size + t309.size ≤ 9223372036854775807 then ((rillmeterref22_num.f k (wrap64 (4 + (x7.size : Int))) 2).bind fun t310 => (if (x4 ++ t309).size + t310.size ≤ 9223372036854775807 then (if ((x4 ++ t309) ++ t310).size + x7.size ≤ 9223372036854775807 then (rillmeterref22_Put.l0 k (((x4 ++ t309) ++ t310) ++ x7) x24 x25 (wrap64 (x26 + 1))) else (none)) else (none))) else (none))))
def rillmeterref22_Put.l2 : Nat → ByteArray → ByteArray → List (S93) → Int → Int → List (S46) → Int → Int → List (S88) → Int → Int → Int → List (S46) → ByteArray → Option (ByteArray × Bool)
  | 0, _, _, _, _, _, _, _, _, _, _, _, _, _, _ => none
  | k + 1, x4, x7, x24, x25, x26, x33, x34, x35, x50, x51, x52, x298000, x298001, x298002 => if x52 < x51 then (if 0 ≤ x52 then (if x52 < (x50.length : Int) then (if ((rd_T88 x50 x52).f2) = 0 then ((rillmeterref22_num.f k ((rd_T88 x50 x52).f0) 2).bind fun t304 => (if x7.size + t304.size ≤ 9223372036854775807 then ((rillmeterref22_num.f k ((rd_T88 x50 x52).f1) 2).bind fun t305 => (if (x7 ++ t304).size + t305.size ≤ 9223372036854775807 then (rillmeterref22_Put.l2 k x4 ((x7 ++ t304) ++ t305) x24 x25 x26 x33 x34 x35 x50 x51 (wrap64 (x52 + 1)) x298000 x298001 x298002) else (none))) else (none))) else ((rillmeterref22_num.f k (wrap64 (((rd_T88 x50 x52).f0) + 32768)) 2).bind fun t306 => (if x7.size + t306.size ≤ 9223372036854775807 then ((rillmeterref22_num.f k ((rd_T88 x50 x52).f1) 2).bind fun t307 => (if (x7 ++ t306).size + t307.size ≤ 9223372036854775807 then ((rillmeterref22_num.f k ((rd_T88 x50 x52).f2) 4).bind fun t308 => (if ((x7 ++ t306) ++ t307).size + t308.size ≤ 9223372036854775807 then (rillmeterref22_Put.l2 k x4 (((x7 ++ t306) ++ t307) ++ t308) x24 x25 x26 x33 x34 x35 x50 x51 (wrap64 (x52 + 1)) x298000 x298001 x298002) else (none))) else (none))) else (none)))) else (none)) else (none)) else (rillmeterref22_Put.l1 k x4 x7 x24 x25 x26 x33 x34 (wrap64 (x35 + 1)) x298000 x298001 x298002)
end
def rillmeterref22_Put.f (k : Nat) (a0_0 : Int) (a0_1 : Int) (a0_2 : Int) (l0_3 : List (S93)) : Option (ByteArray × Bool) := (rillmeterref22_num.f k a0_0 4).bind fun t293 => ((rillmeterref22_num.f k a0_1 4).bind fun t294 => (if t293.size + t294.size ≤ 9223372036854775807 then ((rillmeterref22_num.f k a0_2 4).bind fun t295 => (if (t293 ++ t294).size + t295.size ≤ 9223372036854775807 then (rillmeterref22_Put.l0 k ((t293 ++ t294) ++ t295) l0_3 (l0_3.length : Int) 0) else (none))) else (none)))
theorem rillmeterref22_Put.mono_l : ∀ k, (∀ y0 y1 y2 y3, LeO (rillmeterref22_Put.l0 k y0 y1 y2 y3) (rillmeterref22_Put.l0 (k + 1) y0 y1 y2 y3)) ∧ (∀ y0 y1 y2 y3 y4 y5 y6 y7 y8 y9 y10, LeO (rillmeterref22_Put.l1 k y0 y1 y2 y3 y4 y5 y6 y7 y8 y9 y10) (rillmeterref22_Put.l1 (k + 1) y0 y1 y2 y3 y4 y5 y6 y7 y8 y9 y10)) ∧ (∀ y0 y1 y2 y3 y4 y5 y6 y7 y8 y9 y10 y11 y12 y13, LeO (rillmeterref22_Put.l2 k y0 y1 y2 y3 y4 y5 y6 y7 y8 y9 y10 y11 y12 y13) (rillmeterref22_Put.l2 (k + 1) y0 y1 y2 y3 y4 y5 y6 y7 y8 y9 y10 y11 y12 y13))
  | 0 => ⟨fun _ _ _ _ r h => by simp [rillmeterref22_Put.l0] at h, fun _ _ _ _ _ _ _ _ _ _ _ r h => by simp [rillmeterref22_Put.l1] at h, fun _ _ _ _ _ _ _ _ _ _ _ _ _ _ r h => by simp [rillmeterref22_Put.l2] at h⟩
  | k + 1 => by
    obtain ⟨ih0, ih1, ih2⟩ := rillmeterref22_Put.mono_l k
    refine ⟨?_, ?_, ?_⟩
    · intro y0 y1 y2 y3
      unfold rillmeterref22_Put.l0
      repeat' first
      | (with_reducible exact ih0 _ _ _ _)
      | (with_reducible exact ih1 _ _ _ _ _ _ _ _ _ _ _)
      | (with_reducible exact ih2 _ _ _ _ _ _ _ _ _ _ _ _ _ _)
      | (with_reducible exact rillmeterref22_num.mono _ _ _)
      | (with_reducible exact LeO.refl _)
      | (with_reducible exact LeO.none _)
      | (with_reducible refine LeO.ite ?_ ?_)
      | (with_reducible refine LeO.bind ?_ (fun _ => ?_))
      | exact ih0 _ _ _ _
      | exact ih1 _ _ _ _ _ _ _ _ _ _ _
      | exact ih2 _ _ _ _ _ _ _ _ _ _ _ _ _ _
      | exact rillmeterref22_num.mono _ _ _
      | exact LeO.none _
      | refine LeO.ite ?_ ?_
      | refine LeO.bind ?_ (fun _ => ?_)
    · intro y0 y1 y2 y3 y4 y5 y6 y7 y8 y9 y10
      unfold rillmeterref22_Put.l1
      repeat' first
      | (with_reducible exact ih0 _ _ _ _)
      | (with_reducible exact ih1 _ _ _ _ _ _ _ _ _ _ _)
      | (with_reducible exact ih2 _ _ _ _ _ _ _ _ _ _ _ _ _ _)
      | (with_reducible exact rillmeterref22_num.mono _ _ _)
      | (with_reducible exact LeO.refl _)
      | (with_reducible exact LeO.none _)
      | (with_reducible refine LeO.ite ?_ ?_)
      | (with_reducible refine LeO.bind ?_ (fun _ => ?_))
      | exact ih0 _ _ _ _
      | exact ih1 _ _ _ _ _ _ _ _ _ _ _
      | exact ih2 _ _ _ _ _ _ _ _ _ _ _ _ _ _
      | exact rillmeterref22_num.mono _ _ _
      | exact LeO.none _
      | refine LeO.ite ?_ ?_
      | refine LeO.bind ?_ (fun _ => ?_)
    · intro y0 y1 y2 y3 y4 y5 y6 y7 y8 y9 y10 y11 y12 y13
      unfold rillmeterref22_Put.l2
      repeat' first
      | (with_reducible exact ih0 _ _ _ _)
      | (with_reducible exact ih1 _ _ _ _ _ _ _ _ _ _ _)
      | (with_reducible exact ih2 _ _ _ _ _ _ _ _ _ _ _ _ _ _)
      | (with_reducible exact rillmeterref22_num.mono _ _ _)
      | (with_reducible exact LeO.refl _)
      | (with_reducible exact LeO.none _)
      | (with_reducible refine LeO.ite ?_ ?_)
      | (with_reducible refine LeO.bind ?_ (fun _ => ?_))
      | exact ih0 _ _ _ _
      | exact ih1 _ _ _ _ _ _ _ _ _ _ _
      | exact ih2 _ _ _ _ _ _ _ _ _ _ _ _ _ _
      | exact rillmeterref22_num.mono _ _ _
      | exact LeO.none _
      | refine LeO.ite ?_ ?_
      | refine LeO.bind ?_ (fun _ => ?_)
theorem rillmeterref22_Put.mono : ∀ a0 a1 a2 a3 k, LeO (rillmeterref22_Put.f k a0 a1 a2 a3) (rillmeterref22_Put.f (k + 1) a0 a1 a2 a3) := by
  intro a0 a1 a2 a3 k
  obtain ⟨ih0, ih1, ih2⟩ := rillmeterref22_Put.mono_l k
  unfold rillmeterref22_Put.f
  repeat' first
      | (with_reducible exact ih0 _ _ _ _)
      | (with_reducible exact ih1 _ _ _ _ _ _ _ _ _ _ _)
      | (with_reducible exact ih2 _ _ _ _ _ _ _ _ _ _ _ _ _ _)
      | (with_reducible exact rillmeterref22_num.mono _ _ _)
      | (with_reducible exact LeO.refl _)
      | (with_reducible exact LeO.none _)
      | (with_reducible refine LeO.ite ?_ ?_)
      | (with_reducible refine LeO.bind ?_ (fun _ => ?_))
      | exact ih0 _ _ _ _
      | exact ih1 _ _ _ _ _ _ _ _ _ _ _
      | exact ih2 _ _ _ _ _ _ _ _ _ _ _ _ _ _
      | exact rillmeterref22_num.mono _ _ _
      | exact LeO.none _
      | refine LeO.ite ?_ ?_
      | refine LeO.bind ?_ (fun _ => ?_)
def rillmeterref22_Put.T1 : Bool × List (List Nat × List Nat) := (true, [([], []), ([0], [0]), ([1], [1]), ([], []), ([3], [3]), ([4, 2], [4]), ([2, 5], [2, 5]), ([], []), ([7], [7]), ([8, 5], [8]), ([6, 9], [6, 9]), ([10, 9, 0, 1, 2, 3, 4, 5, 6, 7, 8, 9, 10], [10])])
def rillmeterref22_Put.B1 : List Nat := [0, 1, 3, 0, 8, 31, 63, 0, 128, 447, 1023, 2047]
theorem rillmeterref22_Put.tab1 : rtab .any (opsOf Try.f24 1) = rillmeterref22_Put.T1 := by kernel_rfl
theorem rillmeterref22_Put.bits1 : waitsOk rillmeterref22_Put.T1.2 rillmeterref22_Put.B1 = true := by kernel_rfl
def rillmeterref22_Put.T9 : Bool × List (List Nat × List Nat) := (true, [([], []), ([], []), ([1], [1]), ([2], [2]), ([0, 3], [0, 3]), ([], []), ([5], [5]), ([6], [6]), ([7, 3], [7]), ([4, 8], [4, 8]), ([9, 8, 0, 1, 2, 3, 4, 5, 6, 7, 8, 9], [0, 9])])
def rillmeterref22_Put.B9 : List Nat := [0, 0, 2, 6, 15, 0, 32, 96, 238, 511, 1023]
theorem rillmeterref22_Put.tab9 : rtab .any (opsOf Try.f24 9) = rillmeterref22_Put.T9 := by kernel_rfl
theorem rillmeterref22_Put.bits9 : waitsOk rillmeterref22_Put.T9.2 rillmeterref22_Put.B9 = true := by kernel_rfl
def rillmeterref22_Put.T14 : Bool × List (List Nat × List Nat) := (true, [([], []), ([], []), ([1], [1]), ([2], [2]), ([0, 3], [0, 3]), ([], []), ([5], [5]), ([6, 3], [6]), ([4, 7], [4, 7]), ([8, 7, 0, 1, 2, 3, 4, 5, 6, 7, 8], [0, 8])])
def rillmeterref22_Put.B14 : List Nat := [0, 0, 2, 6, 15, 0, 32, 110, 255, 511]
theorem rillmeterref22_Put.tab14 : rtab .any (opsOf Try.f24 14) = rillmeterref22_Put.T14 := by kernel_rfl
theorem rillmeterref22_Put.bits14 : waitsOk rillmeterref22_Put.T14.2 rillmeterref22_Put.B14 = true := by kernel_rfl
def rillmeterref22_Put.T15 : Bool × List (List Nat × List Nat) := (true, [([], []), ([], []), ([1], [1]), ([2], [2]), ([3], [3]), ([0, 4], [0, 4]), ([], []), ([6], [6]), ([7, 4], [7]), ([5, 8], [5, 8]), ([], []), ([10], [10]), ([11, 8], [11]), ([9, 12], [9, 12]), ([13, 12, 0, 1, 2, 3, 4, 5, 6, 7, 8, 9, 10, 11, 12, 13], [0, 13])])
def rillmeterref22_Put.B15 : List Nat := [0, 0, 2, 6, 14, 31, 0, 64, 222, 511, 0, 1024, 3550, 8191, 16383]
theorem rillmeterref22_Put.tab15 : rtab .any (opsOf Try.f24 15) = rillmeterref22_Put.T15 := by kernel_rfl
theorem rillmeterref22_Put.bits15 : waitsOk rillmeterref22_Put.T15.2 rillmeterref22_Put.B15 = true := by kernel_rfl
set_option maxHeartbeats 80000000 in
set_option maxRecDepth 100000 in
theorem rillmeterref22_Put.calls (k : Nat) (a0_0 : Int) (a0_1 : Int) (a0_2 : Int) (A0_3 : Option Addr) (c0_3 : Nat) (l0_3 : List (S93)) (r1 : ByteArray) (r2 : Bool) (w : World) (hr0_3 : Kd.C k93 w A0_3 l0_3.length l0_3) (hc0_3 : l0_3.length ≤ c0_3) (h : rillmeterref22_Put.f k a0_0 a0_1 a0_2 l0_3 = some (r1, r2)) :
    Calls Try.prog 24 #[.agg #[.int .i64 a0_0, .int .i64 a0_1, .int .i64 a0_2, .slice A0_3 l0_3.length c0_3]] w fun e w' => e = .returned (.tuple #[.string r1, .bool r2]) ∧ Below w.heap.size w w' := by
 have hu58 := Try.underlying58; have hu93 := Try.underlying93; have hu46 := Try.underlying46; have hu88 := Try.underlying88; have gB := mk_ hr0_3; have iJ := mk_ hc0_3; clear hr0_3 hc0_3; have HB := mk_ (Below.refl w.heap.size w); have H : ((rillmeterref22_num.f k a0_0 4).bind fun aM => ((rillmeterref22_num.f k a0_1 4).bind fun aL => (if aM.size + aL.size ≤ 9223372036854775807 then ((rillmeterref22_num.f k a0_2 4).bind fun aR => (if (aM ++ aL).size + aR.size ≤ 9223372036854775807 then (rillmeterref22_Put.l0 k ((aM ++ aL) ++ aR) l0_3 (l0_3.length : Int) 0) else (none))) else (none)))) = some (r1, r2) := h; clear h; replace H := Option.bind_eq_some_iff.mp H; obtain ⟨aM, dY, H⟩ := H; replace H : ((rillmeterref22_num.f k a0_1 4).bind fun aL => (if aM.size + aL.size ≤ 9223372036854775807 then ((rillmeterref22_num.f k a0_2 4).bind fun aR => (if (aM ++ aL).size + aR.size ≤ 9223372036854775807 then (rillmeterref22_Put.l0 k ((aM ++ aL) ++ aR) l0_3 (l0_3.length : Int) 0) else (none))) else (none))) = some (r1, r2) := H; have A2 := mk_ dY; clear dY; replace H := Option.bind_eq_some_iff.mp H; obtain ⟨aL, dZ, H⟩ := H
 replace H : (if aM.size + aL.size ≤ 9223372036854775807 then ((rillmeterref22_num.f k a0_2 4).bind fun aR => (if (aM ++ aL).size + aR.size ≤ 9223372036854775807 then (rillmeterref22_Put.l0 k ((aM ++ aL) ++ aR) l0_3 (l0_3.length : Int) 0) else (none))) else (none)) = some (r1, r2) := H; have A3 := mk_ dZ; clear dZ
 by_cases c4 : aM.size + aL.size ≤ 9223372036854775807
 ·rw [if_pos c4] at H; have cZ := eq_true c4; have dA : decide (aM.size + aL.size ≤ 9223372036854775807) = true := decide_eq_true c4
  try have dB : (9223372036854775807 < aM.size + aL.size) = False := eq_false (Nat.not_lt.2 c4)
  replace H := Option.bind_eq_some_iff.mp H; obtain ⟨aR, fA, H⟩ := H; replace H : (if (aM ++ aL).size + aR.size ≤ 9223372036854775807 then (rillmeterref22_Put.l0 k ((aM ++ aL) ++ aR) l0_3 (l0_3.length : Int) 0) else (none)) = some (r1, r2) := H; have A5 := mk_ fA; clear fA
  by_cases c6 : (aM ++ aL).size + aR.size ≤ 9223372036854775807
  ·rw [if_pos c6] at H; have dC := eq_true c6; have dD : decide ((aM ++ aL).size + aR.size ≤ 9223372036854775807) = true := decide_eq_true c6
   try have cQ : (9223372036854775807 < (aM ++ aL).size + aR.size) = False := eq_false (Nat.not_lt.2 c6)
   try (have gC := cQ; simp only [ByteArray.size_append] at gC)
   have H' := mk_ H; clear H
   go_enter Try.func24, Try.ntmps24
   try go_wp2_with (first | ((with_reducible refine gate_dst (N := 1) rfl ?_); refine box_event ?hg (N := 1) ?hd (cs := #[.int .i64 a0_0, .int .i64 a0_1, .int .i64 a0_2, .slice A0_3 l0_3.length c0_3]) (t := 58) ?hr ?_; (case hd => rfl); (case hg => rfl); (case hr => first | (go_simp; done) | (go_simp; rfl)); intro aT hg w7 hbox hb; have n0_ := bs_ HB hb; have n1_ := mk_ (hbox); have n2_ := gx_ hg HB; have n3_ := gx_ hg HB; clear HB; have HB := n0_; have aC := n1_; have iK := n2_; have dE := n3_; clear n0_ n1_ n2_ n3_; clear hb hbox hg))
   replace aC := bd_ aC; replace HB := mk_ (below_drew1 HB.out); refine start_ (n := 12) (S := fun w' => w'.cell? ⟨aT, 0, none⟩ = some (.int .i64 a0_0) ∧ w'.cell? ⟨aT, 1, none⟩ = some (.int .i64 a0_1) ∧ w'.cell? ⟨aT, 2, none⟩ = some (.int .i64 a0_2) ∧ w'.cell? ⟨aT, 3, none⟩ = some (.slice A0_3 l0_3.length c0_3)) (ds := []) (mB 12 0) (by kernel_rfl) rfl rfl ⟨bc_ aC 0, bc_ aC 1, bc_ aC 2, bc_ aC 3⟩ (fun hHeld => ?_); refine with_tabW rillmeterref22_Put.tab1 rillmeterref22_Put.bits1 (fun HT_ HW_ => ?_); generalize w7.drew = w8 at aC HB hHeld ⊢; refine pw_ 0 12 (v := ?_) (a' := ?_) (mB 12 1) rfl rfl HT_ (by kernel_rfl) (fun _ _ _ h => h) ?_ ?_ ?_; rotate_left
   ·intro w'; go_simp; with_reducible rfl
   rotate_left
   ·simp only [Act.put, sa_, sb_, sc_, i64_w, i32_w]; rfl
   refine pw_ 3 15 (v := ?_) (a' := ?_) (mB 12 9) rfl rfl HT_ (by kernel_rfl) (fun _ _ _ h => h) ?_ ?_ ?_; rotate_left
   ·intro w'; go_simp; with_reducible rfl
   rotate_left
   ·simp only [Act.put, sa_, sb_, sc_, i64_w, i32_w]; rfl
   refine pw_ 7 19 (v := ?_) (a' := ?_) (mB 12 137) rfl rfl HT_ (by kernel_rfl) (fun _ _ _ h => h) ?_ ?_ ?_; rotate_left
   ·intro w'; go_simp; with_reducible rfl
   rotate_left
   ·simp only [Act.put, sa_, sb_, sc_, i64_w, i32_w]; rfl
   refine take_ (i := 1) (N := some 13) (v := ?_) (a' := ?_) (mB 12 139) rfl rfl (take_ofW HT_.out HW_.out (by kernel_rfl)) (fun _ _ _ h => h) (Or.inl ⟨by rfl, ?_⟩) hHeld ?_ ?_; rotate_left
   ·rintro w' ⟨s0, s1, s2, s3⟩; go_simp; with_reducible rfl
   rotate_left
   ·simp only [Act.put, sa_, sb_, sc_, i64_w, i32_w]; rfl
   refine take_ (i := 4) (N := some 16) (v := ?_) (a' := ?_) (mB 12 155) rfl rfl (take_ofW HT_.out HW_.out (by kernel_rfl)) (fun _ _ _ h => h) (Or.inl ⟨by rfl, ?_⟩) hHeld ?_ ?_; rotate_left
   ·rintro w' ⟨s0, s1, s2, s3⟩; go_simp; with_reducible rfl
   rotate_left
   ·simp only [Act.put, sa_, sb_, sc_, i64_w, i32_w]; rfl
   refine take_ (i := 8) (N := some 20) (v := ?_) (a' := ?_) (mB 12 411) rfl rfl (take_ofW HT_.out HW_.out (by kernel_rfl)) (fun _ _ _ h => h) (Or.inl ⟨by rfl, ?_⟩) hHeld ?_ ?_; rotate_left
   ·rintro w' ⟨s0, s1, s2, s3⟩; go_simp; with_reducible rfl
   rotate_left
   ·simp only [Act.put, sa_, sb_, sc_, i64_w, i32_w]; rfl
   refine one_ (i := 2) (N := some 14) (mB 12 415) rfl rfl (one_of HT_.out (by kernel_rfl)) (by decide) (fun K hK => ?_); refine goes_ Try.func38 (by kernel_rfl) rfl #[.int .i64 a0_0, .int .i64 4] (by rfl) rfl rfl (by (try simp only [List.map_toArray, List.map_cons, List.map_nil]); first | done | rfl | (simp only [List.length_drop, List.length_take]; rfl)) ?_; with_reducible refine (rillmeterref22_num.calls k a0_0 4 aM _ A2.out).mono ?_
   rintro e w9 ⟨rfl, hb⟩; refine ⟨_, rfl, ?_⟩; replace aC := bb_ aC hb; replace HB := bs_ HB hb; (try clear hb); refine hK.out _ _ ⟨bc_ aC 0, bc_ aC 1, bc_ aC 2, bc_ aC 3⟩ (fun hHeld => ?_); clear hK K; refine norm_ (a' := ?_) ?_ ?_; rotate_left
   ·show Act.put _ (some 14) _ = _
    simp only [Act.put, sa_, sb_, sc_, i64_w, i32_w]; rfl
   refine one_ (i := 5) (N := some 17) (mB 12 447) rfl rfl (one_of HT_.out (by kernel_rfl)) (by decide) (fun K hK => ?_); refine goes_ Try.func38 (by kernel_rfl) rfl #[.int .i64 a0_1, .int .i64 4] (by rfl) rfl rfl (by (try simp only [List.map_toArray, List.map_cons, List.map_nil]); first | done | rfl | (simp only [List.length_drop, List.length_take]; rfl)) ?_; with_reducible refine (rillmeterref22_num.calls k a0_1 4 aL _ A3.out).mono ?_
   rintro e iL ⟨rfl, hb⟩; refine ⟨_, rfl, ?_⟩; replace aC := bb_ aC hb; replace HB := bs_ HB hb; (try clear hb); refine hK.out _ _ ⟨bc_ aC 0, bc_ aC 1, bc_ aC 2, bc_ aC 3⟩ (fun hHeld => ?_); clear hK K; refine norm_ (a' := ?_) ?_ ?_; rotate_left
   ·show Act.put _ (some 17) _ = _
    simp only [Act.put, sa_, sb_, sc_, i64_w, i32_w]; rfl
   refine pw_ 6 18 (v := ?_) (a' := ?_) (mB 12 511) rfl rfl HT_ (by kernel_rfl) (fun _ _ _ h => h) ?_ ?_ ?_; rotate_left
   ·intro w'; go_simp; with_reducible rfl
   rotate_left
   ·simp only [Act.put, sa_, sb_, sc_, i64_w, i32_w]; rfl
   refine one_ (i := 9) (N := some 21) (mB 12 1023) rfl rfl (one_of HT_.out (by kernel_rfl)) (by decide) (fun K hK => ?_); refine goes_ Try.func38 (by kernel_rfl) rfl #[.int .i64 a0_2, .int .i64 4] (by rfl) rfl rfl (by (try simp only [List.map_toArray, List.map_cons, List.map_nil]); first | done | rfl | (simp only [List.length_drop, List.length_take]; rfl)) ?_; with_reducible refine (rillmeterref22_num.calls k a0_2 4 aR _ A5.out).mono ?_
   rintro e cR ⟨rfl, hb⟩; refine ⟨_, rfl, ?_⟩; replace aC := bb_ aC hb; replace HB := bs_ HB hb; (try clear hb); refine hK.out _ _ ⟨bc_ aC 0, bc_ aC 1, bc_ aC 2, bc_ aC 3⟩ (fun hHeld => ?_); clear hK K; refine norm_ (a' := ?_) ?_ ?_; rotate_left
   ·show Act.put _ (some 21) _ = _
    simp only [Act.put, sa_, sb_, sc_, i64_w, i32_w]; rfl
   refine pw_ 10 22 (v := ?_) (a' := ?_) (mB 12 2047) rfl rfl HT_ (by kernel_rfl) (fun _ _ _ h => h) ?_ ?_ ?_; rotate_left
   ·intro w'; go_simp; with_reducible rfl
   rotate_left
   ·simp only [Act.put, sa_, sb_, sc_, i64_w, i32_w]; rfl
   refine pw_ 11 4 (v := ?_) (a' := ?_) (mB 12 4095) rfl rfl HT_ (by kernel_rfl) (fun _ _ _ h => h) ?_ ?_ ?_; rotate_left
   ·intro w'; go_simp; with_reducible rfl
   rotate_left
   ·simp only [Act.put, sa_, sb_, sc_, i64_w, i32_w]; rfl
   refine done_ (done_of HT_.out (by kernel_rfl)) ?_; have dF : cR.cell? ⟨aT, 0, none⟩ = some (.int .i64 a0_0) := bc_ aC 0; have dG : cR.cell? ⟨aT, 1, none⟩ = some (.int .i64 a0_1) := bc_ aC 1; have dH : cR.cell? ⟨aT, 2, none⟩ = some (.int .i64 a0_2) := bc_ aC 2; have dI : cR.cell? ⟨aT, 3, none⟩ = some (.slice A0_3 l0_3.length c0_3) := bc_ aC 3; have dJ := blk_frozen aC.out 0; have dK := blk_frozen aC.out 1; have dL := blk_frozen aC.out 2; have dM := blk_frozen aC.out 3
   try go_wp2
   go_loopg [4, 26] k (fun kq v4 gD w' => ∃ (aI : ByteArray) (aA : Int), v4 = .string aI ∧ gD = .int .i64 aA ∧ Aside0 (rillmeterref22_Put.l0 kq aI l0_3 (l0_3.length : Int) aA = some (r1, r2)) ∧ Aside0 (kq ≤ k) ∧ Aside0 (w'.heap[aT]? = some (.cells #[.int .i64 a0_0, .int .i64 a0_1, .int .i64 a0_2, (.slice A0_3 l0_3.length c0_3)] 58 (0, 0))) ∧ Aside0 (Below w.heap.size w w'))
   case atStart => exact ⟨((aM ++ aL) ++ aR), (0), (by first | rfl | (simp; done) | (simp [*]; done)), (by first | rfl | (simp; done) | (simp [*]; done)), H', ⟨Nat.le_refl _⟩, ⟨bk_ aC⟩, ⟨bl_ HB⟩⟩
   case round =>
    clear H'; (try clear c2); (try clear p2); (try clear c3); (try clear c4); (try clear cZ); (try clear dA); (try clear dB); (try clear c6); (try clear dC); (try clear dD); (try clear cQ); (try clear dF); (try clear dG); (try clear dH); (try clear dI); (try clear dJ); (try clear dK); (try clear dL); (try clear dM); obtain ⟨aI, aA, rfl, rfl, HA, HK1, aC, HB⟩ := hrel
    cases gk with
    | zero => exact absurd HA.out (by simp [rillmeterref22_Put.l0])
    | succ k1 =>
     have H := HA.out; clear HA; simp only [rillmeterref22_Put.l0] at H
     by_cases bH : aA < (l0_3.length : Int)
     ·rw [if_pos bH] at H; have dN : decide (aA < (l0_3.length : Int)) = true := decide_eq_true bH; clear bH
      by_cases bQ : 0 ≤ aA
      ·rw [if_pos bQ] at H; have fB : decide (0 ≤ aA) = true := decide_eq_true bQ; clear bQ
       by_cases bR : aA < (l0_3.length : Int)
       ·rw [if_pos bR] at H; have fC : decide (aA < (l0_3.length : Int)) = true := decide_eq_true bR; clear bR; have H' := mk_ H; clear H; have bX : 0 ≤ (aA : Int) := of_decide_eq_true (by first | (with_reducible assumption) | assumption); have bY : aA < (l0_3.length : Int) := of_decide_eq_true (by first | (with_reducible assumption) | assumption); obtain ⟨bZ, A296_1, c296_1, e296, cA, cB, cC, fD, hi296_1⟩ := at_T93 gB.out aA bX bY
        cases e296; (try replace cA := bt_ HB cA); (try replace cB := bt_ HB cB); (try replace cC := bt_ HB cC); have gE := mk_ hi296_1; have iM := mk_ fD; clear hi296_1 fD; replace bX := eq_true bX; replace bY := eq_true bY
        go_wp2_with (first | ((with_reducible refine gate_dst (N := 6) rfl ?_); refine box_event ?hg (N := 6) ?hd (cs := #[.int .i64 0, .slice none 0 0, .string (⟨#[]⟩ : ByteArray)]) (t := 93) ?hr ?_; (case hd => rfl); (case hg => rfl); (case hr => first | (go_simp; done) | (go_simp; rfl)); intro aZ hg dO hbox hb; have n0_ := bb_ aC hb; have n1_ := bs_ HB hb; have n2_ := mk_ (hbox); have n3_ := gx_ hg HB; have n4_ := gx_ hg HB; have n5_ := nx_ hg aC; have n6_ := ny_ hg aC; clear aC; clear HB; have aC := n0_; have HB := n1_; have aE := n2_; have iN := n3_; have dP := n4_; have cD := n5_; have fE := n6_; clear n0_ n1_ n2_ n3_ n4_ n5_ n6_; clear hb hbox hg; have iO := fE.out; have iP := cD.out; have fF : dO.cell? ⟨aZ, 0, none⟩ = some (.int .i64 0) := bc_ aE 0; have fG : dO.cell? ⟨aZ, 1, none⟩ = some (.slice none 0 0) := bc_ aE 1; have fH : dO.cell? ⟨aZ, 2, none⟩ = some (.string (⟨#[]⟩ : ByteArray)) := bc_ aE 2; have fI := blk_frozen aE.out 0; have fJ := blk_frozen aE.out 1; have fK := blk_frozen aE.out 2))
        go_loopg [7, 35] k1 (fun kq v7 gF w' => ∃ (aK : ByteArray) (aB : Int), v7 = .string aK ∧ gF = .int .i64 aB ∧ Aside0 (rillmeterref22_Put.l1 kq aI aK l0_3 (l0_3.length : Int) aA ((rd_T93 l0_3 aA).f1) (((rd_T93 l0_3 aA).f1).length : Int) aB ((rd_T93 l0_3 aA).f0) ((rd_T93 l0_3 aA).f1) ((rd_T93 l0_3 aA).f2) = some (r1, r2)) ∧ Aside0 (kq ≤ k1) ∧ Aside0 (w'.heap[aT]? = some (.cells #[.int .i64 a0_0, .int .i64 a0_1, .int .i64 a0_2, (.slice (some bZ) l0_3.length c0_3)] 58 (0, 0))) ∧ Aside0 (w'.heap[aZ]? = some (.cells #[.int .i64 ((rd_T93 l0_3 aA).f0), (.slice A296_1 ((rd_T93 l0_3 aA).f1).length c296_1), .string ((rd_T93 l0_3 aA).f2)] 93 (0, 0))) ∧ Aside0 (Below w.heap.size w w'))
        case atStart => exact ⟨((rd_T93 l0_3 aA).f2), (0), (by first | rfl | (simp; done) | (simp [*]; done)), (by first | rfl | (simp; done) | (simp [*]; done)), H', ⟨Nat.le_refl _⟩, ⟨fb_⟩, ⟨by (with_reducible repeat (first | refine blk_drewN ?_ _ | refine blk_drew ?_ | refine blk_alloc ?_ _)); refine blk_put (cs := #[.int .i64 ((rd_T93 l0_3 aA).f0), .slice A296_1 ((rd_T93 l0_3 aA).f1).length c296_1, .string (⟨#[]⟩ : ByteArray)]) ?_ 2 _ rfl; (with_reducible repeat (first | refine blk_drewN ?_ _ | refine blk_drew ?_ | refine blk_alloc ?_ _)); refine blk_put (cs := #[.int .i64 ((rd_T93 l0_3 aA).f0), .slice none 0 0, .string (⟨#[]⟩ : ByteArray)]) ?_ 1 _ rfl; (with_reducible repeat (first | refine blk_drewN ?_ _ | refine blk_drew ?_ | refine blk_alloc ?_ _)); refine blk_put (cs := #[.int .i64 0, .slice none 0 0, .string (⟨#[]⟩ : ByteArray)]) ?_ 0 _ rfl; (with_reducible repeat (first | refine blk_drewN ?_ _ | refine blk_drew ?_ | refine blk_alloc ?_ _)); exact aE.out⟩, ⟨bl_ HB⟩⟩
        case round =>
         clear H'; (try clear c1); (try clear c2); (try clear p2); (try clear q2); (try clear hx2); (try clear c3); (try clear c4); (try clear cZ); (try clear dA); (try clear dB); (try clear c6); (try clear dC); (try clear dD); (try clear cQ); (try clear bH); (try clear dN); (try clear bQ); (try clear fB); (try clear bR); (try clear fC); (try clear gG); (try clear dF); (try clear dG); (try clear dH); (try clear dI); (try clear fF); (try clear fG); (try clear fH); (try clear dJ); (try clear dK); (try clear dL); (try clear dM); (try clear fI); (try clear fJ); (try clear fK); (try clear cA); (try clear cB); (try clear cC); (try clear p2); (try clear bX); (try clear bY); obtain ⟨aK, aB, rfl, rfl, HA, HK2, aC, aE, HB⟩ := hrel
         cases gk with
         | zero => exact absurd HA.out (by simp [rillmeterref22_Put.l1])
         | succ k2 =>
          have H := HA.out; clear HA; simp only [rillmeterref22_Put.l1] at H
          by_cases bI : aB < (((rd_T93 l0_3 aA).f1).length : Int)
          ·rw [if_pos bI] at H; have fL : decide (aB < (((rd_T93 l0_3 aA).f1).length : Int)) = true := decide_eq_true bI; clear bI
           by_cases cE : 0 ≤ aB
           ·rw [if_pos cE] at H; have gH : decide (0 ≤ aB) = true := decide_eq_true cE; clear cE
            by_cases cF : aB < (((rd_T93 l0_3 aA).f1).length : Int)
            ·rw [if_pos cF] at H; have gI : decide (aB < (((rd_T93 l0_3 aA).f1).length : Int)) = true := decide_eq_true cF; clear cF; replace H := Option.bind_eq_some_iff.mp H; obtain ⟨aV, fM, H⟩ := H; replace H : (if aK.size + aV.size ≤ 9223372036854775807 then ((rillmeterref22_num.f k2 (((rd_T46 ((rd_T93 l0_3 aA).f1) aB).f1).length : Int) 2).bind fun bA => (if (aK ++ aV).size + bA.size ≤ 9223372036854775807 then (rillmeterref22_Put.l2 k2 aI ((aK ++ aV) ++ bA) l0_3 (l0_3.length : Int) aA ((rd_T93 l0_3 aA).f1) (((rd_T93 l0_3 aA).f1).length : Int) aB ((rd_T46 ((rd_T93 l0_3 aA).f1) aB).f1) (((rd_T46 ((rd_T93 l0_3 aA).f1) aB).f1).length : Int) 0 ((rd_T93 l0_3 aA).f0) ((rd_T93 l0_3 aA).f1) ((rd_T93 l0_3 aA).f2)) else (none))) else (none)) = some (r1, r2) := H; have gJ := mk_ fM; clear fM
             by_cases bS : aK.size + aV.size ≤ 9223372036854775807
             ·rw [if_pos bS] at H; have gK := eq_true bS; have gL : decide (aK.size + aV.size ≤ 9223372036854775807) = true := decide_eq_true bS
              try have gM : (9223372036854775807 < aK.size + aV.size) = False := eq_false (Nat.not_lt.2 bS)
              replace H := Option.bind_eq_some_iff.mp H; obtain ⟨bA, fN, H⟩ := H; replace H : (if (aK ++ aV).size + bA.size ≤ 9223372036854775807 then (rillmeterref22_Put.l2 k2 aI ((aK ++ aV) ++ bA) l0_3 (l0_3.length : Int) aA ((rd_T93 l0_3 aA).f1) (((rd_T93 l0_3 aA).f1).length : Int) aB ((rd_T46 ((rd_T93 l0_3 aA).f1) aB).f1) (((rd_T46 ((rd_T93 l0_3 aA).f1) aB).f1).length : Int) 0 ((rd_T93 l0_3 aA).f0) ((rd_T93 l0_3 aA).f1) ((rd_T93 l0_3 aA).f2)) else (none)) = some (r1, r2) := H; have gN := mk_ fN; clear fN
              by_cases bT : (aK ++ aV).size + bA.size ≤ 9223372036854775807
              ·rw [if_pos bT] at H; have gO := eq_true bT; have gP : decide ((aK ++ aV).size + bA.size ≤ 9223372036854775807) = true := decide_eq_true bT
               try have fO : (9223372036854775807 < (aK ++ aV).size + bA.size) = False := eq_false (Nat.not_lt.2 bT)
               try (have gQ := fO; simp only [ByteArray.size_append] at gQ)
               have H' := mk_ H; clear H; have cS : 0 ≤ (aB : Int) := of_decide_eq_true (by first | (with_reducible assumption) | assumption); have cT : aB < (((rd_T93 l0_3 aA).f1).length : Int) := of_decide_eq_true (by first | (with_reducible assumption) | assumption); obtain ⟨cU, A298_1, c298_1, e298, cV, cW, fP, hi298_1⟩ := at_T46 gE.out aB cS cT
               cases e298; (try replace cV := bt_ HB cV); (try replace cW := bt_ HB cW); have fQ := mk_ hi298_1; have iQ := mk_ fP; clear hi298_1 fP; replace cS := eq_true cS; replace cT := eq_true cT
               try go_wp2_with (first | ((with_reducible refine gate_dst (N := 9) rfl ?_); refine box_event ?hg (N := 9) ?hd (cs := #[.int .i64 0, .slice none 0 0]) (t := 46) ?hr ?_; (case hd => rfl); (case hg => rfl); (case hr => first | (go_simp; done) | (go_simp; rfl)); intro aN hg bJ hbox hb; have n0_ := bb_ aC hb; have n1_ := bb_ aE hb; have n2_ := bs_ HB hb; have n3_ := mk_ (hbox); have n4_ := gx_ hg HB; have n5_ := gx_ hg HB; have n6_ := nx_ hg aC; have n7_ := ny_ hg aC; have n8_ := nx_ hg aE; have n9_ := ny_ hg aE; clear aC; clear aE; clear HB; have aC := n0_; have aE := n1_; have HB := n2_; have aF := n3_; have iR := n4_; have dQ := n5_; have dR := n6_; have gR := n7_; have dS := n8_; have gS := n9_; clear n0_ n1_ n2_ n3_ n4_ n5_ n6_ n7_ n8_ n9_; clear hb hbox hg; have iS := gR.out; have iT := dR.out; have iU := gS.out; have iV := dS.out; have gT : bJ.cell? ⟨aN, 0, none⟩ = some (.int .i64 0) := bc_ aF 0; have gU : bJ.cell? ⟨aN, 1, none⟩ = some (.slice none 0 0) := bc_ aF 1; have gV := blk_frozen aF.out 0; have gW := blk_frozen aF.out 1))
               have n0_ : Aside0 (((bJ.setCell ⟨aN, 0, none⟩ (.int .i64 ((rd_T46 ((rd_T93 l0_3 aA).f1) aB).f0))).setCell ⟨aN, 1, none⟩ (.slice A298_1 ((rd_T46 ((rd_T93 l0_3 aA).f1) aB).f1).length c298_1)).heap[aT]? = some (.cells #[.int .i64 a0_0, .int .i64 a0_1, .int .i64 a0_2, .slice (some bZ) l0_3.length c0_3] 58 (0, 0))) := ⟨fb_⟩
               have n1_ : Aside0 (((bJ.setCell ⟨aN, 0, none⟩ (.int .i64 ((rd_T46 ((rd_T93 l0_3 aA).f1) aB).f0))).setCell ⟨aN, 1, none⟩ (.slice A298_1 ((rd_T46 ((rd_T93 l0_3 aA).f1) aB).f1).length c298_1)).heap[aZ]? = some (.cells #[.int .i64 ((rd_T93 l0_3 aA).f0), .slice (some cU) ((rd_T93 l0_3 aA).f1).length c296_1, .string ((rd_T93 l0_3 aA).f2)] 93 (0, 0))) := ⟨fb_⟩
               have n2_ : Aside0 (((bJ.setCell ⟨aN, 0, none⟩ (.int .i64 ((rd_T46 ((rd_T93 l0_3 aA).f1) aB).f0))).setCell ⟨aN, 1, none⟩ (.slice A298_1 ((rd_T46 ((rd_T93 l0_3 aA).f1) aB).f1).length c298_1)).heap[aN]? = some (.cells #[.int .i64 ((rd_T46 ((rd_T93 l0_3 aA).f1) aB).f0), .slice A298_1 ((rd_T46 ((rd_T93 l0_3 aA).f1) aB).f1).length c298_1] 46 (0, 0))) := ⟨by (with_reducible repeat (first | refine blk_drewN ?_ _ | refine blk_drew ?_ | refine blk_alloc ?_ _)); refine blk_put (cs := #[.int .i64 ((rd_T46 ((rd_T93 l0_3 aA).f1) aB).f0), .slice none 0 0]) ?_ 1 _ rfl; (with_reducible repeat (first | refine blk_drewN ?_ _ | refine blk_drew ?_ | refine blk_alloc ?_ _)); refine blk_put (cs := #[.int .i64 0, .slice none 0 0]) ?_ 0 _ rfl; (with_reducible repeat (first | refine blk_drewN ?_ _ | refine blk_drew ?_ | refine blk_alloc ?_ _)); exact aF.out⟩; have n3_ : Aside0 (Below w.heap.size w ((bJ.setCell ⟨aN, 0, none⟩ (.int .i64 ((rd_T46 ((rd_T93 l0_3 aA).f1) aB).f0))).setCell ⟨aN, 1, none⟩ (.slice A298_1 ((rd_T46 ((rd_T93 l0_3 aA).f1) aB).f1).length c298_1))) := ⟨by repeat (first | (with_reducible first | exact HB.out | apply below_alloc | apply pw_below_drewN | apply below_drew1 | refine below_set ?_ dE.out | refine below_set ?_ dP.out | refine below_set ?_ dQ.out) | exact HB.out)⟩; (try clear aC); (try clear aE); (try clear aF); (try clear HB)
               generalize ((bJ.setCell ⟨aN, 0, none⟩ (.int .i64 ((rd_T46 ((rd_T93 l0_3 aA).f1) aB).f0))).setCell ⟨aN, 1, none⟩ (.slice A298_1 ((rd_T46 ((rd_T93 l0_3 aA).f1) aB).f1).length c298_1)) = gX at n0_ n1_ n2_ n3_ ⊢; have aC := n0_; have aE := n1_; have aF := n2_; have HB := n3_; clear n0_ n1_ n2_ n3_; replace aC := bd_ aC; replace aE := bd_ aE; replace aF := bd_ aF; replace HB := mk_ (below_drew1 HB.out); refine start_ (n := 11) (S := fun w' => w'.cell? ⟨aN, 0, none⟩ = some (.int .i64 ((rd_T46 ((rd_T93 l0_3 aA).f1) aB).f0)) ∧ w'.cell? ⟨aN, 1, none⟩ = some (.slice A298_1 ((rd_T46 ((rd_T93 l0_3 aA).f1) aB).f1).length c298_1)) (ds := []) (mB 11 0) (by kernel_rfl) rfl rfl ⟨bc_ aF 0, bc_ aF 1⟩ (fun hHeld => ?_); refine with_tabW rillmeterref22_Put.tab9 rillmeterref22_Put.bits9 (fun HT_ HW_ => ?_); generalize gX.drew = iW at aC aE aF HB hHeld ⊢; refine pw_ 0 39 (v := ?_) (a' := ?_) (mB 11 1) rfl rfl HT_ (by kernel_rfl) (fun _ _ _ h => h) ?_ ?_ ?_; rotate_left
               ·intro w'; go_simp; with_reducible rfl
               rotate_left
               ·simp only [Act.put, sa_, sb_, sc_, i64_w, i32_w]; rfl
               refine pw_ 1 40 (v := ?_) (a' := ?_) (mB 11 3) rfl rfl HT_ (by kernel_rfl) (fun _ _ _ h => h) ?_ ?_ ?_; rotate_left
               ·intro w'; go_simp; with_reducible rfl
               rotate_left
               ·simp only [Act.put, sa_, sb_, sc_, i64_w, i32_w]; rfl
               refine pw_ 5 44 (v := ?_) (a' := ?_) (mB 11 35) rfl rfl HT_ (by kernel_rfl) (fun _ _ _ h => h) ?_ ?_ ?_; rotate_left
               ·intro w'; go_simp; with_reducible rfl
               rotate_left
               ·simp only [Act.put, sa_, sb_, sc_, i64_w, i32_w]; rfl
               refine take_ (i := 2) (N := some 41) (v := ?_) (a' := ?_) (mB 11 39) rfl rfl (take_ofW HT_.out HW_.out (by kernel_rfl)) (fun _ _ _ h => h) (Or.inl ⟨by rfl, ?_⟩) hHeld ?_ ?_; rotate_left
               ·rintro w' ⟨s0, s1⟩; go_simp; with_reducible rfl
               rotate_left
               ·simp only [Act.put, sa_, sb_, sc_, i64_w, i32_w]; rfl
               refine take_ (i := 6) (N := some 45) (v := ?_) (a' := ?_) (mB 11 103) rfl rfl (take_ofW HT_.out HW_.out (by kernel_rfl)) (fun _ _ _ h => h) (Or.inl ⟨by rfl, ?_⟩) hHeld ?_ ?_; rotate_left
               ·rintro w' ⟨s0, s1⟩; go_simp; with_reducible rfl
               rotate_left
               ·simp only [Act.put, sa_, sb_, sc_, i64_w, i32_w]; rfl
               refine pw_ 7 46 (v := ?_) (a' := ?_) (mB 11 231) rfl rfl HT_ (by kernel_rfl) (fun _ _ _ h => h) ?_ ?_ ?_; rotate_left
               ·intro w'; go_simp; with_reducible rfl
               rotate_left
               ·simp only [Act.put, sa_, sb_, sc_, i64_w, i32_w]; rfl
               refine one_ (i := 3) (N := some 42) (mB 11 239) rfl rfl (one_of HT_.out (by kernel_rfl)) (by decide) (fun K hK => ?_); refine goes_ Try.func38 (by kernel_rfl) rfl #[.int .i64 ((rd_T46 ((rd_T93 l0_3 aA).f1) aB).f0), .int .i64 2] (by rfl) rfl rfl (by (try simp only [List.map_toArray, List.map_cons, List.map_nil]); first | done | rfl | (simp only [List.length_drop, List.length_take]; rfl)) ?_; with_reducible refine (rillmeterref22_num.calls k2 ((rd_T46 ((rd_T93 l0_3 aA).f1) aB).f0) 2 aV _ gJ.out).mono ?_
               rintro e iX ⟨rfl, hb⟩; refine ⟨_, rfl, ?_⟩; replace aC := bb_ aC hb; replace aE := bb_ aE hb; replace aF := bb_ aF hb; replace HB := bs_ HB hb; (try clear hb); refine hK.out _ _ ⟨bc_ aF 0, bc_ aF 1⟩ (fun hHeld => ?_); clear hK K; refine norm_ (a' := ?_) ?_ ?_; rotate_left
               ·show Act.put _ (some 42) _ = _
                simp only [Act.put, sa_, sb_, sc_, i64_w, i32_w]; rfl
               refine pw_ 4 43 (v := ?_) (a' := ?_) (mB 11 255) rfl rfl HT_ (by kernel_rfl) (fun _ _ _ h => h) ?_ ?_ ?_; rotate_left
               ·intro w'; go_simp; with_reducible rfl
               rotate_left
               ·simp only [Act.put, sa_, sb_, sc_, i64_w, i32_w]; rfl
               refine one_ (i := 8) (N := some 47) (mB 11 511) rfl rfl (one_of HT_.out (by kernel_rfl)) (by decide) (fun K hK => ?_); refine goes_ Try.func38 (by kernel_rfl) rfl #[.int .i64 (((rd_T46 ((rd_T93 l0_3 aA).f1) aB).f1).length : Int), .int .i64 2] (by rfl) rfl rfl (by (try simp only [List.map_toArray, List.map_cons, List.map_nil]); first | done | rfl | (simp only [List.length_drop, List.length_take]; rfl)) ?_; with_reducible refine (rillmeterref22_num.calls k2 (((rd_T46 ((rd_T93 l0_3 aA).f1) aB).f1).length : Int) 2 bA _ gN.out).mono ?_
               rintro e fR ⟨rfl, hb⟩; refine ⟨_, rfl, ?_⟩; replace aC := bb_ aC hb; replace aE := bb_ aE hb; replace aF := bb_ aF hb; replace HB := bs_ HB hb; (try clear hb); refine hK.out _ _ ⟨bc_ aF 0, bc_ aF 1⟩ (fun hHeld => ?_); clear hK K; refine norm_ (a' := ?_) ?_ ?_; rotate_left
               ·show Act.put _ (some 47) _ = _
                simp only [Act.put, sa_, sb_, sc_, i64_w, i32_w]; rfl
               refine pw_ 9 48 (v := ?_) (a' := ?_) (mB 11 1023) rfl rfl HT_ (by kernel_rfl) (fun _ _ _ h => h) ?_ ?_ ?_; rotate_left
               ·intro w'; go_simp; with_reducible rfl
               rotate_left
               ·simp only [Act.put, sa_, sb_, sc_, i64_w, i32_w]; rfl
               refine pw_ 10 7 (v := ?_) (a' := ?_) (mB 11 2047) rfl rfl HT_ (by kernel_rfl) (fun _ _ _ h => h) ?_ ?_ ?_; rotate_left
               ·intro w'; go_simp; with_reducible rfl
               rotate_left
               ·simp only [Act.put, sa_, sb_, sc_, i64_w, i32_w]; rfl
               refine done_ (done_of HT_.out (by kernel_rfl)) ?_; have gY : fR.cell? ⟨aN, 0, none⟩ = some (.int .i64 ((rd_T46 ((rd_T93 l0_3 aA).f1) aB).f0)) := bc_ aF 0; have gZ : fR.cell? ⟨aN, 1, none⟩ = some (.slice A298_1 ((rd_T46 ((rd_T93 l0_3 aA).f1) aB).f1).length c298_1) := bc_ aF 1; have hA := blk_frozen aF.out 0; have hB := blk_frozen aF.out 1
               try go_wp2
               go_loopg [7, 52] k2 (fun kq v7 hC w' => ∃ (aJ : ByteArray) (aD : Int), v7 = .string aJ ∧ hC = .int .i64 aD ∧ Aside0 (rillmeterref22_Put.l2 kq aI aJ l0_3 (l0_3.length : Int) aA ((rd_T93 l0_3 aA).f1) (((rd_T93 l0_3 aA).f1).length : Int) aB ((rd_T46 ((rd_T93 l0_3 aA).f1) aB).f1) (((rd_T46 ((rd_T93 l0_3 aA).f1) aB).f1).length : Int) aD ((rd_T93 l0_3 aA).f0) ((rd_T93 l0_3 aA).f1) ((rd_T93 l0_3 aA).f2) = some (r1, r2)) ∧ Aside0 (kq ≤ k2) ∧ Aside0 (w'.heap[aT]? = some (.cells #[.int .i64 a0_0, .int .i64 a0_1, .int .i64 a0_2, (.slice (some bZ) l0_3.length c0_3)] 58 (0, 0))) ∧ Aside0 (w'.heap[aZ]? = some (.cells #[.int .i64 ((rd_T93 l0_3 aA).f0), (.slice (some cU) ((rd_T93 l0_3 aA).f1).length c296_1), .string ((rd_T93 l0_3 aA).f2)] 93 (0, 0))) ∧ Aside0 (w'.heap[aN]? = some (.cells #[.int .i64 ((rd_T46 ((rd_T93 l0_3 aA).f1) aB).f0), (.slice A298_1 ((rd_T46 ((rd_T93 l0_3 aA).f1) aB).f1).length c298_1)] 46 (0, 0))) ∧ Aside0 (Below w.heap.size w w'))
               case atStart => exact ⟨((aK ++ aV) ++ bA), (0), (by first | rfl | (simp; done) | (simp [*]; done)), (by first | rfl | (simp; done) | (simp [*]; done)), H', ⟨Nat.le_refl _⟩, ⟨bk_ aC⟩, ⟨bk_ aE⟩, ⟨bk_ aF⟩, ⟨bl_ HB⟩⟩
               case round =>
                clear H'; (try clear c1); (try clear c2); (try clear p2); (try clear q2); (try clear hx2); (try clear c3); (try clear c4); (try clear cZ); (try clear dA); (try clear dB); (try clear c6); (try clear dC); (try clear dD); (try clear cQ); (try clear bH); (try clear dN); (try clear bQ); (try clear fB); (try clear bR); (try clear fC); (try clear gG); (try clear bI); (try clear fL); (try clear cE); (try clear gH); (try clear cF); (try clear gI); (try clear bS); (try clear gK); (try clear gL); (try clear gM); (try clear iY); (try clear bT); (try clear gO); (try clear gP); (try clear fO); (try clear iZ); (try clear jA); (try clear jB); (try clear jC); (try clear jD); (try clear hx29); (try clear dF); (try clear dG); (try clear dH); (try clear dI); (try clear fF); (try clear fG); (try clear fH); (try clear gT); (try clear gU); (try clear gY); (try clear gZ); (try clear dJ); (try clear dK); (try clear dL); (try clear dM); (try clear fI); (try clear fJ); (try clear fK); (try clear gV); (try clear gW); (try clear hA); (try clear hB); (try clear cA); (try clear cB); (try clear cC); (try clear cV); (try clear cW); (try clear p2); (try clear bX); (try clear cS); (try clear q2); (try clear bY); (try clear cT)
                obtain ⟨aJ, aD, rfl, rfl, HA, HK3, aC, aE, aF, HB⟩ := hrel
                cases gk with
                | zero => exact absurd HA.out (by simp [rillmeterref22_Put.l2])
                | succ k3 =>
                 have H := HA.out; clear HA; simp only [rillmeterref22_Put.l2] at H
                 by_cases bU : aD < (((rd_T46 ((rd_T93 l0_3 aA).f1) aB).f1).length : Int)
                 ·rw [if_pos bU] at H; have hD : decide (aD < (((rd_T46 ((rd_T93 l0_3 aA).f1) aB).f1).length : Int)) = true := decide_eq_true bU; clear bU
                  by_cases cX : 0 ≤ aD
                  ·rw [if_pos cX] at H; have jE : decide (0 ≤ aD) = true := decide_eq_true cX; clear cX
                   by_cases cY : aD < (((rd_T46 ((rd_T93 l0_3 aA).f1) aB).f1).length : Int)
                   ·rw [if_pos cY] at H; have jF : decide (aD < (((rd_T46 ((rd_T93 l0_3 aA).f1) aB).f1).length : Int)) = true := decide_eq_true cY; clear cY
                    by_cases bK : ((rd_T88 ((rd_T46 ((rd_T93 l0_3 aA).f1) aB).f1) aD).f2) = 0
                    ·rw [if_pos bK] at H; have hE : (((rd_T88 ((rd_T46 ((rd_T93 l0_3 aA).f1) aB).f1) aD).f2) == 0) = true := beq_iff_eq.mpr bK; have hF : (((rd_T88 ((rd_T46 ((rd_T93 l0_3 aA).f1) aB).f1) aD).f2) != 0) = false := bne_eq_false_iff_eq.mpr bK; clear bK; replace H := Option.bind_eq_some_iff.mp H; obtain ⟨aW, fS, H⟩ := H; replace H : (if aJ.size + aW.size ≤ 9223372036854775807 then ((rillmeterref22_num.f k3 ((rd_T88 ((rd_T46 ((rd_T93 l0_3 aA).f1) aB).f1) aD).f1) 2).bind fun bB => (if (aJ ++ aW).size + bB.size ≤ 9223372036854775807 then (rillmeterref22_Put.l2 k3 aI ((aJ ++ aW) ++ bB) l0_3 (l0_3.length : Int) aA ((rd_T93 l0_3 aA).f1) (((rd_T93 l0_3 aA).f1).length : Int) aB ((rd_T46 ((rd_T93 l0_3 aA).f1) aB).f1) (((rd_T46 ((rd_T93 l0_3 aA).f1) aB).f1).length : Int) (wrap64 (aD + 1)) ((rd_T93 l0_3 aA).f0) ((rd_T93 l0_3 aA).f1) ((rd_T93 l0_3 aA).f2)) else (none))) else (none)) = some (r1, r2) := H; have hG := mk_ fS; clear fS
                     by_cases cG : aJ.size + aW.size ≤ 9223372036854775807
                     ·rw [if_pos cG] at H; have jG := eq_true cG; have jH : decide (aJ.size + aW.size ≤ 9223372036854775807) = true := decide_eq_true cG
                      try have jI : (9223372036854775807 < aJ.size + aW.size) = False := eq_false (Nat.not_lt.2 cG)
                      replace H := Option.bind_eq_some_iff.mp H; obtain ⟨bB, fT, H⟩ := H; replace H : (if (aJ ++ aW).size + bB.size ≤ 9223372036854775807 then (rillmeterref22_Put.l2 k3 aI ((aJ ++ aW) ++ bB) l0_3 (l0_3.length : Int) aA ((rd_T93 l0_3 aA).f1) (((rd_T93 l0_3 aA).f1).length : Int) aB ((rd_T46 ((rd_T93 l0_3 aA).f1) aB).f1) (((rd_T46 ((rd_T93 l0_3 aA).f1) aB).f1).length : Int) (wrap64 (aD + 1)) ((rd_T93 l0_3 aA).f0) ((rd_T93 l0_3 aA).f1) ((rd_T93 l0_3 aA).f2)) else (none)) = some (r1, r2) := H; have hH := mk_ fT; clear fT
                      by_cases cH : (aJ ++ aW).size + bB.size ≤ 9223372036854775807
                      ·rw [if_pos cH] at H; have jJ := eq_true cH; have jK : decide ((aJ ++ aW).size + bB.size ≤ 9223372036854775807) = true := decide_eq_true cH
                       try have hI : (9223372036854775807 < (aJ ++ aW).size + bB.size) = False := eq_false (Nat.not_lt.2 cH)
                       try (have hJ := hI; simp only [ByteArray.size_append] at hJ)
                       have H' := mk_ H; clear H; have bL : 0 ≤ (aD : Int) := of_decide_eq_true (by first | (with_reducible assumption) | assumption); have bM : aD < (((rd_T46 ((rd_T93 l0_3 aA).f1) aB).f1).length : Int) := of_decide_eq_true (by first | (with_reducible assumption) | assumption); obtain ⟨dT, e302, bN, bO, bP⟩ := at_T88 fQ.out aD bL bM
                       cases e302; (try replace bN := bt_ HB bN); (try replace bO := bt_ HB bO); (try replace bP := bt_ HB bP); replace bL := eq_true bL; replace bM := eq_true bM
                       try go_wp2_with (first | ((with_reducible refine gate_dst (N := 11) rfl ?_); refine box_event ?hg (N := 11) ?hd (cs := #[.int .i64 0, .int .i64 0, .int .i64 0]) (t := 88) ?hr ?_; (case hd => rfl); (case hg => rfl); (case hr => first | (go_simp; done) | (go_simp; rfl)); intro aH hg bC hbox hb; have n0_ := bb_ aC hb; have n1_ := bb_ aE hb; have n2_ := bb_ aF hb; have n3_ := bs_ HB hb; have n4_ := mk_ (hbox); have n5_ := gx_ hg HB; have n6_ := gx_ hg HB; have n7_ := nx_ hg aC; have n8_ := ny_ hg aC; have n9_ := nx_ hg aE; have n10_ := ny_ hg aE; have n11_ := nx_ hg aF; have n12_ := ny_ hg aF; clear aC; clear aE; clear aF; clear HB; have aC := n0_; have aE := n1_; have aF := n2_; have HB := n3_; have aG := n4_; have hL := n5_; have dU := n6_; have bD := n7_; have dV := n8_; have bE := n9_; have dW := n10_; have bF := n11_; have dX := n12_; clear n0_ n1_ n2_ n3_ n4_ n5_ n6_ n7_ n8_ n9_ n10_ n11_ n12_; clear hb hbox hg; have jL := dV.out; have jM := bD.out; have jN := dW.out; have jO := bE.out; have jP := dX.out; have jQ := bF.out; have jR : bC.cell? ⟨aH, 0, none⟩ = some (.int .i64 0) := bc_ aG 0; have jS : bC.cell? ⟨aH, 1, none⟩ = some (.int .i64 0) := bc_ aG 1; have jT : bC.cell? ⟨aH, 2, none⟩ = some (.int .i64 0) := bc_ aG 2; have jU := blk_frozen aG.out 0; have jV := blk_frozen aG.out 1; have jW := blk_frozen aG.out 2))
                       have n0_ : Aside0 ((((bC.setCell ⟨aH, 0, none⟩ (.int .i64 ((rd_T88 ((rd_T46 ((rd_T93 l0_3 aA).f1) aB).f1) aD).f0))).setCell ⟨aH, 1, none⟩ (.int .i64 ((rd_T88 ((rd_T46 ((rd_T93 l0_3 aA).f1) aB).f1) aD).f1))).setCell ⟨aH, 2, none⟩ (.int .i64 ((rd_T88 ((rd_T46 ((rd_T93 l0_3 aA).f1) aB).f1) aD).f2))).heap[aT]? = some (.cells #[.int .i64 a0_0, .int .i64 a0_1, .int .i64 a0_2, .slice (some bZ) l0_3.length c0_3] 58 (0, 0))) := ⟨fb_⟩
                       have n1_ : Aside0 ((((bC.setCell ⟨aH, 0, none⟩ (.int .i64 ((rd_T88 ((rd_T46 ((rd_T93 l0_3 aA).f1) aB).f1) aD).f0))).setCell ⟨aH, 1, none⟩ (.int .i64 ((rd_T88 ((rd_T46 ((rd_T93 l0_3 aA).f1) aB).f1) aD).f1))).setCell ⟨aH, 2, none⟩ (.int .i64 ((rd_T88 ((rd_T46 ((rd_T93 l0_3 aA).f1) aB).f1) aD).f2))).heap[aZ]? = some (.cells #[.int .i64 ((rd_T93 l0_3 aA).f0), .slice (some cU) ((rd_T93 l0_3 aA).f1).length c296_1, .string ((rd_T93 l0_3 aA).f2)] 93 (0, 0))) := ⟨fb_⟩
                       have n2_ : Aside0 ((((bC.setCell ⟨aH, 0, none⟩ (.int .i64 ((rd_T88 ((rd_T46 ((rd_T93 l0_3 aA).f1) aB).f1) aD).f0))).setCell ⟨aH, 1, none⟩ (.int .i64 ((rd_T88 ((rd_T46 ((rd_T93 l0_3 aA).f1) aB).f1) aD).f1))).setCell ⟨aH, 2, none⟩ (.int .i64 ((rd_T88 ((rd_T46 ((rd_T93 l0_3 aA).f1) aB).f1) aD).f2))).heap[aN]? = some (.cells #[.int .i64 ((rd_T46 ((rd_T93 l0_3 aA).f1) aB).f0), .slice (some dT) ((rd_T46 ((rd_T93 l0_3 aA).f1) aB).f1).length c298_1] 46 (0, 0))) := ⟨fb_⟩
                       have n3_ : Aside0 ((((bC.setCell ⟨aH, 0, none⟩ (.int .i64 ((rd_T88 ((rd_T46 ((rd_T93 l0_3 aA).f1) aB).f1) aD).f0))).setCell ⟨aH, 1, none⟩ (.int .i64 ((rd_T88 ((rd_T46 ((rd_T93 l0_3 aA).f1) aB).f1) aD).f1))).setCell ⟨aH, 2, none⟩ (.int .i64 ((rd_T88 ((rd_T46 ((rd_T93 l0_3 aA).f1) aB).f1) aD).f2))).heap[aH]? = some (.cells #[.int .i64 ((rd_T88 ((rd_T46 ((rd_T93 l0_3 aA).f1) aB).f1) aD).f0), .int .i64 ((rd_T88 ((rd_T46 ((rd_T93 l0_3 aA).f1) aB).f1) aD).f1), .int .i64 ((rd_T88 ((rd_T46 ((rd_T93 l0_3 aA).f1) aB).f1) aD).f2)] 88 (0, 0))) := ⟨by (with_reducible repeat (first | refine blk_drewN ?_ _ | refine blk_drew ?_ | refine blk_alloc ?_ _)); refine blk_put (cs := #[.int .i64 ((rd_T88 ((rd_T46 ((rd_T93 l0_3 aA).f1) aB).f1) aD).f0), .int .i64 ((rd_T88 ((rd_T46 ((rd_T93 l0_3 aA).f1) aB).f1) aD).f1), .int .i64 0]) ?_ 2 _ rfl; (with_reducible repeat (first | refine blk_drewN ?_ _ | refine blk_drew ?_ | refine blk_alloc ?_ _)); refine blk_put (cs := #[.int .i64 ((rd_T88 ((rd_T46 ((rd_T93 l0_3 aA).f1) aB).f1) aD).f0), .int .i64 0, .int .i64 0]) ?_ 1 _ rfl; (with_reducible repeat (first | refine blk_drewN ?_ _ | refine blk_drew ?_ | refine blk_alloc ?_ _)); refine blk_put (cs := #[.int .i64 0, .int .i64 0, .int .i64 0]) ?_ 0 _ rfl; (with_reducible repeat (first | refine blk_drewN ?_ _ | refine blk_drew ?_ | refine blk_alloc ?_ _)); exact aG.out⟩
                       have n4_ : Aside0 (Below w.heap.size w (((bC.setCell ⟨aH, 0, none⟩ (.int .i64 ((rd_T88 ((rd_T46 ((rd_T93 l0_3 aA).f1) aB).f1) aD).f0))).setCell ⟨aH, 1, none⟩ (.int .i64 ((rd_T88 ((rd_T46 ((rd_T93 l0_3 aA).f1) aB).f1) aD).f1))).setCell ⟨aH, 2, none⟩ (.int .i64 ((rd_T88 ((rd_T46 ((rd_T93 l0_3 aA).f1) aB).f1) aD).f2)))) := ⟨by repeat (first | (with_reducible first | exact HB.out | apply below_alloc | apply pw_below_drewN | apply below_drew1 | refine below_set ?_ dE.out | refine below_set ?_ dP.out | refine below_set ?_ dQ.out | refine below_set ?_ dU.out) | exact HB.out)⟩; (try clear aC); (try clear aE); (try clear aF); (try clear aG); (try clear HB); generalize (((bC.setCell ⟨aH, 0, none⟩ (.int .i64 ((rd_T88 ((rd_T46 ((rd_T93 l0_3 aA).f1) aB).f1) aD).f0))).setCell ⟨aH, 1, none⟩ (.int .i64 ((rd_T88 ((rd_T46 ((rd_T93 l0_3 aA).f1) aB).f1) aD).f1))).setCell ⟨aH, 2, none⟩ (.int .i64 ((rd_T88 ((rd_T46 ((rd_T93 l0_3 aA).f1) aB).f1) aD).f2))) = hM at n0_ n1_ n2_ n3_ n4_ ⊢; have aC := n0_; have aE := n1_; have aF := n2_; have aG := n3_; have HB := n4_; clear n0_ n1_ n2_ n3_ n4_; replace aC := bd_ aC; replace aE := bd_ aE; replace aF := bd_ aF; replace aG := bd_ aG; replace HB := mk_ (below_drew1 HB.out)
                       refine start_ (n := 10) (S := fun w' => w'.cell? ⟨aH, 0, none⟩ = some (.int .i64 ((rd_T88 ((rd_T46 ((rd_T93 l0_3 aA).f1) aB).f1) aD).f0)) ∧ w'.cell? ⟨aH, 1, none⟩ = some (.int .i64 ((rd_T88 ((rd_T46 ((rd_T93 l0_3 aA).f1) aB).f1) aD).f1)) ∧ w'.cell? ⟨aH, 2, none⟩ = some (.int .i64 ((rd_T88 ((rd_T46 ((rd_T93 l0_3 aA).f1) aB).f1) aD).f2))) (ds := []) (mB 10 0) (by kernel_rfl) rfl rfl ⟨bc_ aG 0, bc_ aG 1, bc_ aG 2⟩ (fun hHeld => ?_); refine with_tabW rillmeterref22_Put.tab14 rillmeterref22_Put.bits14 (fun HT_ HW_ => ?_); generalize hM.drew = jX at aC aE aF aG HB hHeld ⊢; refine pw_ 0 59 (v := ?_) (a' := ?_) (mB 10 1) rfl rfl HT_ (by kernel_rfl) (fun _ _ _ h => h) ?_ ?_ ?_; rotate_left
                       ·intro w'; go_simp; with_reducible rfl
                       rotate_left
                       ·simp only [Act.put, sa_, sb_, sc_, i64_w, i32_w]; rfl
                       refine pw_ 1 60 (v := ?_) (a' := ?_) (mB 10 3) rfl rfl HT_ (by kernel_rfl) (fun _ _ _ h => h) ?_ ?_ ?_; rotate_left
                       ·intro w'; go_simp; with_reducible rfl
                       rotate_left
                       ·simp only [Act.put, sa_, sb_, sc_, i64_w, i32_w]; rfl
                       refine pw_ 5 64 (v := ?_) (a' := ?_) (mB 10 35) rfl rfl HT_ (by kernel_rfl) (fun _ _ _ h => h) ?_ ?_ ?_; rotate_left
                       ·intro w'; go_simp; with_reducible rfl
                       rotate_left
                       ·simp only [Act.put, sa_, sb_, sc_, i64_w, i32_w]; rfl
                       refine take_ (i := 2) (N := some 61) (v := ?_) (a' := ?_) (mB 10 39) rfl rfl (take_ofW HT_.out HW_.out (by kernel_rfl)) (fun _ _ _ h => h) (Or.inl ⟨by rfl, ?_⟩) hHeld ?_ ?_; rotate_left
                       ·rintro w' ⟨s0, s1, s2⟩; go_simp; with_reducible rfl
                       rotate_left
                       ·simp only [Act.put, sa_, sb_, sc_, i64_w, i32_w]; rfl
                       refine take_ (i := 6) (N := some 65) (v := ?_) (a' := ?_) (mB 10 103) rfl rfl (take_ofW HT_.out HW_.out (by kernel_rfl)) (fun _ _ _ h => h) (Or.inl ⟨by rfl, ?_⟩) hHeld ?_ ?_; rotate_left
                       ·rintro w' ⟨s0, s1, s2⟩; go_simp; with_reducible rfl
                       rotate_left
                       ·simp only [Act.put, sa_, sb_, sc_, i64_w, i32_w]; rfl
                       refine one_ (i := 3) (N := some 62) (mB 10 111) rfl rfl (one_of HT_.out (by kernel_rfl)) (by decide) (fun K hK => ?_); refine goes_ Try.func38 (by kernel_rfl) rfl #[.int .i64 ((rd_T88 ((rd_T46 ((rd_T93 l0_3 aA).f1) aB).f1) aD).f0), .int .i64 2] (by rfl) rfl rfl (by (try simp only [List.map_toArray, List.map_cons, List.map_nil]); first | done | rfl | (simp only [List.length_drop, List.length_take]; rfl)) ?_; with_reducible refine (rillmeterref22_num.calls k3 ((rd_T88 ((rd_T46 ((rd_T93 l0_3 aA).f1) aB).f1) aD).f0) 2 aW _ hG.out).mono ?_
                       rintro e jY ⟨rfl, hb⟩; refine ⟨_, rfl, ?_⟩; replace aC := bb_ aC hb; replace aE := bb_ aE hb; replace aF := bb_ aF hb; replace aG := bb_ aG hb; replace HB := bs_ HB hb; (try clear hb); refine hK.out _ _ ⟨bc_ aG 0, bc_ aG 1, bc_ aG 2⟩ (fun hHeld => ?_); clear hK K; refine norm_ (a' := ?_) ?_ ?_; rotate_left
                       ·show Act.put _ (some 62) _ = _
                        simp only [Act.put, sa_, sb_, sc_, i64_w, i32_w]; rfl
                       refine pw_ 4 63 (v := ?_) (a' := ?_) (mB 10 127) rfl rfl HT_ (by kernel_rfl) (fun _ _ _ h => h) ?_ ?_ ?_; rotate_left
                       ·intro w'; go_simp; with_reducible rfl
                       rotate_left
                       ·simp only [Act.put, sa_, sb_, sc_, i64_w, i32_w]; rfl
                       refine one_ (i := 7) (N := some 66) (mB 10 255) rfl rfl (one_of HT_.out (by kernel_rfl)) (by decide) (fun K hK => ?_); refine goes_ Try.func38 (by kernel_rfl) rfl #[.int .i64 ((rd_T88 ((rd_T46 ((rd_T93 l0_3 aA).f1) aB).f1) aD).f1), .int .i64 2] (by rfl) rfl rfl (by (try simp only [List.map_toArray, List.map_cons, List.map_nil]); first | done | rfl | (simp only [List.length_drop, List.length_take]; rfl)) ?_; with_reducible refine (rillmeterref22_num.calls k3 ((rd_T88 ((rd_T46 ((rd_T93 l0_3 aA).f1) aB).f1) aD).f1) 2 bB _ hH.out).mono ?_
                       rintro e jZ ⟨rfl, hb⟩; refine ⟨_, rfl, ?_⟩; replace aC := bb_ aC hb; replace aE := bb_ aE hb; replace aF := bb_ aF hb; replace aG := bb_ aG hb; replace HB := bs_ HB hb; (try clear hb); refine hK.out _ _ ⟨bc_ aG 0, bc_ aG 1, bc_ aG 2⟩ (fun hHeld => ?_); clear hK K; refine norm_ (a' := ?_) ?_ ?_; rotate_left
                       ·show Act.put _ (some 66) _ = _
                        simp only [Act.put, sa_, sb_, sc_, i64_w, i32_w]; rfl
                       refine pw_ 8 67 (v := ?_) (a' := ?_) (mB 10 511) rfl rfl HT_ (by kernel_rfl) (fun _ _ _ h => h) ?_ ?_ ?_; rotate_left
                       ·intro w'; go_simp; with_reducible rfl
                       rotate_left
                       ·simp only [Act.put, sa_, sb_, sc_, i64_w, i32_w]; rfl
                       refine pw_ 9 7 (v := ?_) (a' := ?_) (mB 10 1023) rfl rfl HT_ (by kernel_rfl) (fun _ _ _ h => h) ?_ ?_ ?_; rotate_left
                       ·intro w'; go_simp; with_reducible rfl
                       rotate_left
                       ·simp only [Act.put, sa_, sb_, sc_, i64_w, i32_w]; rfl
                       refine done_ (done_of HT_.out (by kernel_rfl)) ?_
                       try go_wp2
                       go_roundg k3
                       case measure => have := HK1.out; have := HK2.out; have := HK3.out; omega
                       case rel => exact ⟨((aJ ++ aW) ++ bB), (wrap64 (aD + 1)), (by first | rfl | (simp; done) | (simp [*]; done)), (by first | rfl | (simp; done) | (simp [*]; done)), H', ⟨by have := HK1.out; have := HK2.out; have := HK3.out; omega⟩, ⟨bk_ aC⟩, ⟨bk_ aE⟩, ⟨bk_ aF⟩, ⟨bl_ HB⟩⟩
                      ·rw [if_neg cH] at H; exact absurd H (by simp)
                     ·rw [if_neg cG] at H; exact absurd H (by simp)
                    ·rw [if_neg bK] at H; have hE : (((rd_T88 ((rd_T46 ((rd_T93 l0_3 aA).f1) aB).f1) aD).f2) == 0) = false := beq_eq_false_iff_ne.mpr bK; have hF : (((rd_T88 ((rd_T46 ((rd_T93 l0_3 aA).f1) aB).f1) aD).f2) != 0) = true := bne_iff_ne.mpr bK; replace H := Option.bind_eq_some_iff.mp H; obtain ⟨aO, fU, H⟩ := H; replace H : (if aJ.size + aO.size ≤ 9223372036854775807 then ((rillmeterref22_num.f k3 ((rd_T88 ((rd_T46 ((rd_T93 l0_3 aA).f1) aB).f1) aD).f1) 2).bind fun aQ => (if (aJ ++ aO).size + aQ.size ≤ 9223372036854775807 then ((rillmeterref22_num.f k3 ((rd_T88 ((rd_T46 ((rd_T93 l0_3 aA).f1) aB).f1) aD).f2) 4).bind fun aX => (if ((aJ ++ aO) ++ aQ).size + aX.size ≤ 9223372036854775807 then (rillmeterref22_Put.l2 k3 aI (((aJ ++ aO) ++ aQ) ++ aX) l0_3 (l0_3.length : Int) aA ((rd_T93 l0_3 aA).f1) (((rd_T93 l0_3 aA).f1).length : Int) aB ((rd_T46 ((rd_T93 l0_3 aA).f1) aB).f1) (((rd_T46 ((rd_T93 l0_3 aA).f1) aB).f1).length : Int) (wrap64 (aD + 1)) ((rd_T93 l0_3 aA).f0) ((rd_T93 l0_3 aA).f1) ((rd_T93 l0_3 aA).f2)) else (none))) else (none))) else (none)) = some (r1, r2) := H; have hN := mk_ fU; clear fU
                     by_cases cI : aJ.size + aO.size ≤ 9223372036854775807
                     ·rw [if_pos cI] at H; have lA := eq_true cI; have lB : decide (aJ.size + aO.size ≤ 9223372036854775807) = true := decide_eq_true cI
                      try have lC : (9223372036854775807 < aJ.size + aO.size) = False := eq_false (Nat.not_lt.2 cI)
                      replace H := Option.bind_eq_some_iff.mp H; obtain ⟨aQ, fV, H⟩ := H; replace H : (if (aJ ++ aO).size + aQ.size ≤ 9223372036854775807 then ((rillmeterref22_num.f k3 ((rd_T88 ((rd_T46 ((rd_T93 l0_3 aA).f1) aB).f1) aD).f2) 4).bind fun aX => (if ((aJ ++ aO) ++ aQ).size + aX.size ≤ 9223372036854775807 then (rillmeterref22_Put.l2 k3 aI (((aJ ++ aO) ++ aQ) ++ aX) l0_3 (l0_3.length : Int) aA ((rd_T93 l0_3 aA).f1) (((rd_T93 l0_3 aA).f1).length : Int) aB ((rd_T46 ((rd_T93 l0_3 aA).f1) aB).f1) (((rd_T46 ((rd_T93 l0_3 aA).f1) aB).f1).length : Int) (wrap64 (aD + 1)) ((rd_T93 l0_3 aA).f0) ((rd_T93 l0_3 aA).f1) ((rd_T93 l0_3 aA).f2)) else (none))) else (none)) = some (r1, r2) := H; have hO := mk_ fV; clear fV
                      by_cases cJ : (aJ ++ aO).size + aQ.size ≤ 9223372036854775807
                      ·rw [if_pos cJ] at H; have lD := eq_true cJ; have lE : decide ((aJ ++ aO).size + aQ.size ≤ 9223372036854775807) = true := decide_eq_true cJ
                       try have hP : (9223372036854775807 < (aJ ++ aO).size + aQ.size) = False := eq_false (Nat.not_lt.2 cJ)
                       try (have hQ := hP; simp only [ByteArray.size_append] at hQ)
                       replace H := Option.bind_eq_some_iff.mp H; obtain ⟨aX, fW, H⟩ := H; replace H : (if ((aJ ++ aO) ++ aQ).size + aX.size ≤ 9223372036854775807 then (rillmeterref22_Put.l2 k3 aI (((aJ ++ aO) ++ aQ) ++ aX) l0_3 (l0_3.length : Int) aA ((rd_T93 l0_3 aA).f1) (((rd_T93 l0_3 aA).f1).length : Int) aB ((rd_T46 ((rd_T93 l0_3 aA).f1) aB).f1) (((rd_T46 ((rd_T93 l0_3 aA).f1) aB).f1).length : Int) (wrap64 (aD + 1)) ((rd_T93 l0_3 aA).f0) ((rd_T93 l0_3 aA).f1) ((rd_T93 l0_3 aA).f2)) else (none)) = some (r1, r2) := H; have hR := mk_ fW; clear fW
                       by_cases cK : ((aJ ++ aO) ++ aQ).size + aX.size ≤ 9223372036854775807
                       ·rw [if_pos cK] at H; have lF := eq_true cK; have lG : decide (((aJ ++ aO) ++ aQ).size + aX.size ≤ 9223372036854775807) = true := decide_eq_true cK
                        try have hS : (9223372036854775807 < ((aJ ++ aO) ++ aQ).size + aX.size) = False := eq_false (Nat.not_lt.2 cK)
                        try (have hT := hS; simp only [ByteArray.size_append] at hT)
                        have H' := mk_ H; clear H; have bL : 0 ≤ (aD : Int) := of_decide_eq_true (by first | (with_reducible assumption) | assumption); have bM : aD < (((rd_T46 ((rd_T93 l0_3 aA).f1) aB).f1).length : Int) := of_decide_eq_true (by first | (with_reducible assumption) | assumption); obtain ⟨dT, e302, bN, bO, bP⟩ := at_T88 fQ.out aD bL bM
                        cases e302; (try replace bN := bt_ HB bN); (try replace bO := bt_ HB bO); (try replace bP := bt_ HB bP); replace bL := eq_true bL; replace bM := eq_true bM
                        try go_wp2_with (first | ((with_reducible refine gate_dst (N := 11) rfl ?_); refine box_event ?hg (N := 11) ?hd (cs := #[.int .i64 0, .int .i64 0, .int .i64 0]) (t := 88) ?hr ?_; (case hd => rfl); (case hg => rfl); (case hr => first | (go_simp; done) | (go_simp; rfl)); intro aH hg bG hbox hb; have n0_ := bb_ aC hb; have n1_ := bb_ aE hb; have n2_ := bb_ aF hb; have n3_ := bs_ HB hb; have n4_ := mk_ (hbox); have n5_ := gx_ hg HB; have n6_ := gx_ hg HB; have n7_ := nx_ hg aC; have n8_ := ny_ hg aC; have n9_ := nx_ hg aE; have n10_ := ny_ hg aE; have n11_ := nx_ hg aF; have n12_ := ny_ hg aF; clear aC; clear aE; clear aF; clear HB; have aC := n0_; have aE := n1_; have aF := n2_; have HB := n3_; have aG := n4_; have hL := n5_; have dU := n6_; have bD := n7_; have dV := n8_; have bE := n9_; have dW := n10_; have bF := n11_; have dX := n12_; clear n0_ n1_ n2_ n3_ n4_ n5_ n6_ n7_ n8_ n9_ n10_ n11_ n12_; clear hb hbox hg; have lH := dV.out; have lI := bD.out; have lJ := dW.out; have lK := bE.out; have lL := dX.out; have lM := bF.out; have lN : bG.cell? ⟨aH, 0, none⟩ = some (.int .i64 0) := bc_ aG 0; have lO : bG.cell? ⟨aH, 1, none⟩ = some (.int .i64 0) := bc_ aG 1; have lP : bG.cell? ⟨aH, 2, none⟩ = some (.int .i64 0) := bc_ aG 2; have lQ := blk_frozen aG.out 0; have lR := blk_frozen aG.out 1; have lS := blk_frozen aG.out 2))
                        have n0_ : Aside0 ((((bG.setCell ⟨aH, 0, none⟩ (.int .i64 ((rd_T88 ((rd_T46 ((rd_T93 l0_3 aA).f1) aB).f1) aD).f0))).setCell ⟨aH, 1, none⟩ (.int .i64 ((rd_T88 ((rd_T46 ((rd_T93 l0_3 aA).f1) aB).f1) aD).f1))).setCell ⟨aH, 2, none⟩ (.int .i64 ((rd_T88 ((rd_T46 ((rd_T93 l0_3 aA).f1) aB).f1) aD).f2))).heap[aT]? = some (.cells #[.int .i64 a0_0, .int .i64 a0_1, .int .i64 a0_2, .slice (some bZ) l0_3.length c0_3] 58 (0, 0))) := ⟨fb_⟩
                        have n1_ : Aside0 ((((bG.setCell ⟨aH, 0, none⟩ (.int .i64 ((rd_T88 ((rd_T46 ((rd_T93 l0_3 aA).f1) aB).f1) aD).f0))).setCell ⟨aH, 1, none⟩ (.int .i64 ((rd_T88 ((rd_T46 ((rd_T93 l0_3 aA).f1) aB).f1) aD).f1))).setCell ⟨aH, 2, none⟩ (.int .i64 ((rd_T88 ((rd_T46 ((rd_T93 l0_3 aA).f1) aB).f1) aD).f2))).heap[aZ]? = some (.cells #[.int .i64 ((rd_T93 l0_3 aA).f0), .slice (some cU) ((rd_T93 l0_3 aA).f1).length c296_1, .string ((rd_T93 l0_3 aA).f2)] 93 (0, 0))) := ⟨fb_⟩
                        have n2_ : Aside0 ((((bG.setCell ⟨aH, 0, none⟩ (.int .i64 ((rd_T88 ((rd_T46 ((rd_T93 l0_3 aA).f1) aB).f1) aD).f0))).setCell ⟨aH, 1, none⟩ (.int .i64 ((rd_T88 ((rd_T46 ((rd_T93 l0_3 aA).f1) aB).f1) aD).f1))).setCell ⟨aH, 2, none⟩ (.int .i64 ((rd_T88 ((rd_T46 ((rd_T93 l0_3 aA).f1) aB).f1) aD).f2))).heap[aN]? = some (.cells #[.int .i64 ((rd_T46 ((rd_T93 l0_3 aA).f1) aB).f0), .slice (some dT) ((rd_T46 ((rd_T93 l0_3 aA).f1) aB).f1).length c298_1] 46 (0, 0))) := ⟨fb_⟩
                        have n3_ : Aside0 ((((bG.setCell ⟨aH, 0, none⟩ (.int .i64 ((rd_T88 ((rd_T46 ((rd_T93 l0_3 aA).f1) aB).f1) aD).f0))).setCell ⟨aH, 1, none⟩ (.int .i64 ((rd_T88 ((rd_T46 ((rd_T93 l0_3 aA).f1) aB).f1) aD).f1))).setCell ⟨aH, 2, none⟩ (.int .i64 ((rd_T88 ((rd_T46 ((rd_T93 l0_3 aA).f1) aB).f1) aD).f2))).heap[aH]? = some (.cells #[.int .i64 ((rd_T88 ((rd_T46 ((rd_T93 l0_3 aA).f1) aB).f1) aD).f0), .int .i64 ((rd_T88 ((rd_T46 ((rd_T93 l0_3 aA).f1) aB).f1) aD).f1), .int .i64 ((rd_T88 ((rd_T46 ((rd_T93 l0_3 aA).f1) aB).f1) aD).f2)] 88 (0, 0))) := ⟨by (with_reducible repeat (first | refine blk_drewN ?_ _ | refine blk_drew ?_ | refine blk_alloc ?_ _)); refine blk_put (cs := #[.int .i64 ((rd_T88 ((rd_T46 ((rd_T93 l0_3 aA).f1) aB).f1) aD).f0), .int .i64 ((rd_T88 ((rd_T46 ((rd_T93 l0_3 aA).f1) aB).f1) aD).f1), .int .i64 0]) ?_ 2 _ rfl; (with_reducible repeat (first | refine blk_drewN ?_ _ | refine blk_drew ?_ | refine blk_alloc ?_ _)); refine blk_put (cs := #[.int .i64 ((rd_T88 ((rd_T46 ((rd_T93 l0_3 aA).f1) aB).f1) aD).f0), .int .i64 0, .int .i64 0]) ?_ 1 _ rfl; (with_reducible repeat (first | refine blk_drewN ?_ _ | refine blk_drew ?_ | refine blk_alloc ?_ _)); refine blk_put (cs := #[.int .i64 0, .int .i64 0, .int .i64 0]) ?_ 0 _ rfl; (with_reducible repeat (first | refine blk_drewN ?_ _ | refine blk_drew ?_ | refine blk_alloc ?_ _)); exact aG.out⟩
                        have n4_ : Aside0 (Below w.heap.size w (((bG.setCell ⟨aH, 0, none⟩ (.int .i64 ((rd_T88 ((rd_T46 ((rd_T93 l0_3 aA).f1) aB).f1) aD).f0))).setCell ⟨aH, 1, none⟩ (.int .i64 ((rd_T88 ((rd_T46 ((rd_T93 l0_3 aA).f1) aB).f1) aD).f1))).setCell ⟨aH, 2, none⟩ (.int .i64 ((rd_T88 ((rd_T46 ((rd_T93 l0_3 aA).f1) aB).f1) aD).f2)))) := ⟨by repeat (first | (with_reducible first | exact HB.out | apply below_alloc | apply pw_below_drewN | apply below_drew1 | refine below_set ?_ dE.out | refine below_set ?_ dP.out | refine below_set ?_ dQ.out | refine below_set ?_ dU.out) | exact HB.out)⟩; (try clear aC); (try clear aE); (try clear aF); (try clear aG); (try clear HB); generalize (((bG.setCell ⟨aH, 0, none⟩ (.int .i64 ((rd_T88 ((rd_T46 ((rd_T93 l0_3 aA).f1) aB).f1) aD).f0))).setCell ⟨aH, 1, none⟩ (.int .i64 ((rd_T88 ((rd_T46 ((rd_T93 l0_3 aA).f1) aB).f1) aD).f1))).setCell ⟨aH, 2, none⟩ (.int .i64 ((rd_T88 ((rd_T46 ((rd_T93 l0_3 aA).f1) aB).f1) aD).f2))) = hU at n0_ n1_ n2_ n3_ n4_ ⊢; have aC := n0_; have aE := n1_; have aF := n2_; have aG := n3_; have HB := n4_; clear n0_ n1_ n2_ n3_ n4_; replace aC := bd_ aC; replace aE := bd_ aE; replace aF := bd_ aF; replace aG := bd_ aG; replace HB := mk_ (below_drew1 HB.out)
                        refine start_ (n := 15) (S := fun w' => w'.cell? ⟨aH, 0, none⟩ = some (.int .i64 ((rd_T88 ((rd_T46 ((rd_T93 l0_3 aA).f1) aB).f1) aD).f0)) ∧ w'.cell? ⟨aH, 1, none⟩ = some (.int .i64 ((rd_T88 ((rd_T46 ((rd_T93 l0_3 aA).f1) aB).f1) aD).f1)) ∧ w'.cell? ⟨aH, 2, none⟩ = some (.int .i64 ((rd_T88 ((rd_T46 ((rd_T93 l0_3 aA).f1) aB).f1) aD).f2))) (ds := []) (mB 15 0) (by kernel_rfl) rfl rfl ⟨bc_ aG 0, bc_ aG 1, bc_ aG 2⟩ (fun hHeld => ?_); refine with_tabW rillmeterref22_Put.tab15 rillmeterref22_Put.bits15 (fun HT_ HW_ => ?_); generalize hU.drew = lT at aC aE aF aG HB hHeld ⊢; refine pw_ 0 68 (v := ?_) (a' := ?_) (mB 15 1) rfl rfl HT_ (by kernel_rfl) (fun _ _ _ h => h) ?_ ?_ ?_; rotate_left
                        ·intro w'; go_simp; with_reducible rfl
                        rotate_left
                        ·simp only [Act.put, sa_, sb_, sc_, i64_w, i32_w]; rfl
                        refine pw_ 1 69 (v := ?_) (a' := ?_) (mB 15 3) rfl rfl HT_ (by kernel_rfl) (fun _ _ _ h => h) ?_ ?_ ?_; rotate_left
                        ·intro w'; go_simp; with_reducible rfl
                        rotate_left
                        ·simp only [Act.put, sa_, sb_, sc_, i64_w, i32_w]; rfl
                        refine pw_ 6 74 (v := ?_) (a' := ?_) (mB 15 67) rfl rfl HT_ (by kernel_rfl) (fun _ _ _ h => h) ?_ ?_ ?_; rotate_left
                        ·intro w'; go_simp; with_reducible rfl
                        rotate_left
                        ·simp only [Act.put, sa_, sb_, sc_, i64_w, i32_w]; rfl
                        refine pw_ 10 78 (v := ?_) (a' := ?_) (mB 15 1091) rfl rfl HT_ (by kernel_rfl) (fun _ _ _ h => h) ?_ ?_ ?_; rotate_left
                        ·intro w'; go_simp; with_reducible rfl
                        rotate_left
                        ·simp only [Act.put, sa_, sb_, sc_, i64_w, i32_w]; rfl
                        refine take_ (i := 2) (N := some 70) (v := ?_) (a' := ?_) (mB 15 1095) rfl rfl (take_ofW HT_.out HW_.out (by kernel_rfl)) (fun _ _ _ h => h) (Or.inl ⟨by rfl, ?_⟩) hHeld ?_ ?_; rotate_left
                        ·rintro w' ⟨s0, s1, s2⟩; go_simp; with_reducible rfl
                        rotate_left
                        ·simp only [Act.put, sa_, sb_, sc_, i64_w, i32_w]; rfl
                        refine pw_ 3 71 (v := ?_) (a' := ?_) (mB 15 1103) rfl rfl HT_ (by kernel_rfl) (fun _ _ _ h => h) ?_ ?_ ?_; rotate_left
                        ·intro w'; go_simp; with_reducible rfl
                        rotate_left
                        ·simp only [Act.put, sa_, sb_, sc_, i64_w, i32_w]; rfl
                        refine take_ (i := 7) (N := some 75) (v := ?_) (a' := ?_) (mB 15 1231) rfl rfl (take_ofW HT_.out HW_.out (by kernel_rfl)) (fun _ _ _ h => h) (Or.inl ⟨by rfl, ?_⟩) hHeld ?_ ?_; rotate_left
                        ·rintro w' ⟨s0, s1, s2⟩; go_simp; with_reducible rfl
                        rotate_left
                        ·simp only [Act.put, sa_, sb_, sc_, i64_w, i32_w]; rfl
                        refine take_ (i := 11) (N := some 79) (v := ?_) (a' := ?_) (mB 15 3279) rfl rfl (take_ofW HT_.out HW_.out (by kernel_rfl)) (fun _ _ _ h => h) (Or.inl ⟨by rfl, ?_⟩) hHeld ?_ ?_; rotate_left
                        ·rintro w' ⟨s0, s1, s2⟩; go_simp; with_reducible rfl
                        rotate_left
                        ·simp only [Act.put, sa_, sb_, sc_, i64_w, i32_w]; rfl
                        refine one_ (i := 4) (N := some 72) (mB 15 3295) rfl rfl (one_of HT_.out (by kernel_rfl)) (by decide) (fun K hK => ?_); refine goes_ Try.func38 (by kernel_rfl) rfl #[.int .i64 (wrap64 (((rd_T88 ((rd_T46 ((rd_T93 l0_3 aA).f1) aB).f1) aD).f0) + 32768)), .int .i64 2] (by rfl) rfl rfl (by (try simp only [List.map_toArray, List.map_cons, List.map_nil]); first | done | rfl | (simp only [List.length_drop, List.length_take]; rfl)) ?_; with_reducible refine (rillmeterref22_num.calls k3 (wrap64 (((rd_T88 ((rd_T46 ((rd_T93 l0_3 aA).f1) aB).f1) aD).f0) + 32768)) 2 aO _ hN.out).mono ?_
                        rintro e lU ⟨rfl, hb⟩; refine ⟨_, rfl, ?_⟩; replace aC := bb_ aC hb; replace aE := bb_ aE hb; replace aF := bb_ aF hb; replace aG := bb_ aG hb; replace HB := bs_ HB hb; (try clear hb); refine hK.out _ _ ⟨bc_ aG 0, bc_ aG 1, bc_ aG 2⟩ (fun hHeld => ?_); clear hK K; refine norm_ (a' := ?_) ?_ ?_; rotate_left
                        ·show Act.put _ (some 72) _ = _
                         simp only [Act.put, sa_, sb_, sc_, i64_w, i32_w]; rfl
                        refine pw_ 5 73 (v := ?_) (a' := ?_) (mB 15 3327) rfl rfl HT_ (by kernel_rfl) (fun _ _ _ h => h) ?_ ?_ ?_; rotate_left
                        ·intro w'; go_simp; with_reducible rfl
                        rotate_left
                        ·simp only [Act.put, sa_, sb_, sc_, i64_w, i32_w]; rfl
                        refine one_ (i := 8) (N := some 76) (mB 15 3583) rfl rfl (one_of HT_.out (by kernel_rfl)) (by decide) (fun K hK => ?_); refine goes_ Try.func38 (by kernel_rfl) rfl #[.int .i64 ((rd_T88 ((rd_T46 ((rd_T93 l0_3 aA).f1) aB).f1) aD).f1), .int .i64 2] (by rfl) rfl rfl (by (try simp only [List.map_toArray, List.map_cons, List.map_nil]); first | done | rfl | (simp only [List.length_drop, List.length_take]; rfl)) ?_; with_reducible refine (rillmeterref22_num.calls k3 ((rd_T88 ((rd_T46 ((rd_T93 l0_3 aA).f1) aB).f1) aD).f1) 2 aQ _ hO.out).mono ?_
                        rintro e lV ⟨rfl, hb⟩; refine ⟨_, rfl, ?_⟩; replace aC := bb_ aC hb; replace aE := bb_ aE hb; replace aF := bb_ aF hb; replace aG := bb_ aG hb; replace HB := bs_ HB hb; (try clear hb); refine hK.out _ _ ⟨bc_ aG 0, bc_ aG 1, bc_ aG 2⟩ (fun hHeld => ?_); clear hK K; refine norm_ (a' := ?_) ?_ ?_; rotate_left
                        ·show Act.put _ (some 76) _ = _
                         simp only [Act.put, sa_, sb_, sc_, i64_w, i32_w]; rfl
                        refine pw_ 9 77 (v := ?_) (a' := ?_) (mB 15 4095) rfl rfl HT_ (by kernel_rfl) (fun _ _ _ h => h) ?_ ?_ ?_; rotate_left
                        ·intro w'; go_simp; with_reducible rfl
                        rotate_left
                        ·simp only [Act.put, sa_, sb_, sc_, i64_w, i32_w]; rfl
                        refine one_ (i := 12) (N := some 80) (mB 15 8191) rfl rfl (one_of HT_.out (by kernel_rfl)) (by decide) (fun K hK => ?_); refine goes_ Try.func38 (by kernel_rfl) rfl #[.int .i64 ((rd_T88 ((rd_T46 ((rd_T93 l0_3 aA).f1) aB).f1) aD).f2), .int .i64 4] (by rfl) rfl rfl (by (try simp only [List.map_toArray, List.map_cons, List.map_nil]); first | done | rfl | (simp only [List.length_drop, List.length_take]; rfl)) ?_; with_reducible refine (rillmeterref22_num.calls k3 ((rd_T88 ((rd_T46 ((rd_T93 l0_3 aA).f1) aB).f1) aD).f2) 4 aX _ hR.out).mono ?_
                        rintro e lW ⟨rfl, hb⟩; refine ⟨_, rfl, ?_⟩; replace aC := bb_ aC hb; replace aE := bb_ aE hb; replace aF := bb_ aF hb; replace aG := bb_ aG hb; replace HB := bs_ HB hb; (try clear hb); refine hK.out _ _ ⟨bc_ aG 0, bc_ aG 1, bc_ aG 2⟩ (fun hHeld => ?_); clear hK K; refine norm_ (a' := ?_) ?_ ?_; rotate_left
                        ·show Act.put _ (some 80) _ = _
                         simp only [Act.put, sa_, sb_, sc_, i64_w, i32_w]; rfl
                        refine pw_ 13 81 (v := ?_) (a' := ?_) (mB 15 16383) rfl rfl HT_ (by kernel_rfl) (fun _ _ _ h => h) ?_ ?_ ?_; rotate_left
                        ·intro w'; go_simp; with_reducible rfl
                        rotate_left
                        ·simp only [Act.put, sa_, sb_, sc_, i64_w, i32_w]; rfl
                        refine pw_ 14 7 (v := ?_) (a' := ?_) (mB 15 32767) rfl rfl HT_ (by kernel_rfl) (fun _ _ _ h => h) ?_ ?_ ?_; rotate_left
                        ·intro w'; go_simp; with_reducible rfl
                        rotate_left
                        ·simp only [Act.put, sa_, sb_, sc_, i64_w, i32_w]; rfl
                        refine done_ (done_of HT_.out (by kernel_rfl)) ?_
                        try go_wp2
                        go_roundg k3
                        case measure => have := HK1.out; have := HK2.out; have := HK3.out; omega
                        case rel => exact ⟨(((aJ ++ aO) ++ aQ) ++ aX), (wrap64 (aD + 1)), (by first | rfl | (simp; done) | (simp [*]; done)), (by first | rfl | (simp; done) | (simp [*]; done)), H', ⟨by have := HK1.out; have := HK2.out; have := HK3.out; omega⟩, ⟨bk_ aC⟩, ⟨bk_ aE⟩, ⟨bk_ aF⟩, ⟨bl_ HB⟩⟩
                       ·rw [if_neg cK] at H; exact absurd H (by simp)
                      ·rw [if_neg cJ] at H; exact absurd H (by simp)
                     ·rw [if_neg cI] at H; exact absurd H (by simp)
                   ·rw [if_neg cY] at H; exact absurd H (by simp)
                  ·rw [if_neg cX] at H; exact absurd H (by simp)
                 ·rw [if_neg bU] at H; have hD : decide (aD < (((rd_T46 ((rd_T93 l0_3 aA).f1) aB).f1).length : Int)) = false := decide_eq_false bU; clear bU; have H' := mk_ H; clear H
                  go_wp2
                  go_roundg k3
                  case measure => have := HK1.out; have := HK2.out; have := HK3.out; omega
                  case rel => exact ⟨(aJ), (wrap64 (aB + 1)), (by first | rfl | (simp; done) | (simp [*]; done)), (by first | rfl | (simp; done) | (simp [*]; done)), H', ⟨by have := HK1.out; have := HK2.out; have := HK3.out; omega⟩, ⟨bk_ aC⟩, ⟨bk_ aE⟩, ⟨bl_ HB⟩⟩
              ·rw [if_neg bT] at H; exact absurd H (by simp)
             ·rw [if_neg bS] at H; exact absurd H (by simp)
            ·rw [if_neg cF] at H; exact absurd H (by simp)
           ·rw [if_neg cE] at H; exact absurd H (by simp)
          ·rw [if_neg bI] at H; have fL : decide (aB < (((rd_T93 l0_3 aA).f1).length : Int)) = false := decide_eq_false bI; clear bI
           by_cases bV : (aK.size : Int) > 65531
           ·rw [if_pos bV] at H; have hV : decide (65531 < (aK.size : Int)) = true := decide_eq_true bV; have hW : decide (65531 < aK.size) = true := decide_eq_true (by omega); clear bV; simp only [Option.some.injEq, Prod.mk.injEq] at H; obtain ⟨rfl, rfl⟩ := H
            go_wp2
            go_ret2
            exact ⟨by first | rfl | (simp [errW_none, errW_some] <;> rfl) | (simp [*, errW_none, errW_some] <;> rfl), bl_ HB⟩
           ·rw [if_neg bV] at H; have hV : decide (65531 < (aK.size : Int)) = false := decide_eq_false bV; have hW : decide (65531 < aK.size) = false := decide_eq_false (by omega); clear bV; replace H := Option.bind_eq_some_iff.mp H; obtain ⟨aP, fX, H⟩ := H; replace H : (if aI.size + aP.size ≤ 9223372036854775807 then ((rillmeterref22_num.f k2 (wrap64 (4 + (aK.size : Int))) 2).bind fun aS => (if (aI ++ aP).size + aS.size ≤ 9223372036854775807 then (if ((aI ++ aP) ++ aS).size + aK.size ≤ 9223372036854775807 then (rillmeterref22_Put.l0 k2 (((aI ++ aP) ++ aS) ++ aK) l0_3 (l0_3.length : Int) (wrap64 (aA + 1))) else (none)) else (none))) else (none)) = some (r1, r2) := H; have hX := mk_ fX; clear fX
            by_cases cL : aI.size + aP.size ≤ 9223372036854775807
            ·rw [if_pos cL] at H; have lX := eq_true cL; have lY : decide (aI.size + aP.size ≤ 9223372036854775807) = true := decide_eq_true cL
             try have lZ : (9223372036854775807 < aI.size + aP.size) = False := eq_false (Nat.not_lt.2 cL)
             replace H := Option.bind_eq_some_iff.mp H; obtain ⟨aS, fY, H⟩ := H; replace H : (if (aI ++ aP).size + aS.size ≤ 9223372036854775807 then (if ((aI ++ aP) ++ aS).size + aK.size ≤ 9223372036854775807 then (rillmeterref22_Put.l0 k2 (((aI ++ aP) ++ aS) ++ aK) l0_3 (l0_3.length : Int) (wrap64 (aA + 1))) else (none)) else (none)) = some (r1, r2) := H; have hY := mk_ fY; clear fY
             by_cases cM : (aI ++ aP).size + aS.size ≤ 9223372036854775807
             ·rw [if_pos cM] at H; have mA := eq_true cM; have mC : decide ((aI ++ aP).size + aS.size ≤ 9223372036854775807) = true := decide_eq_true cM
              try have hZ : (9223372036854775807 < (aI ++ aP).size + aS.size) = False := eq_false (Nat.not_lt.2 cM)
              try (have iA := hZ; simp only [ByteArray.size_append] at iA)
              by_cases cN : ((aI ++ aP) ++ aS).size + aK.size ≤ 9223372036854775807
              ·rw [if_pos cN] at H; have mD := eq_true cN; have mE : decide (((aI ++ aP) ++ aS).size + aK.size ≤ 9223372036854775807) = true := decide_eq_true cN
               try have iB : (9223372036854775807 < ((aI ++ aP) ++ aS).size + aK.size) = False := eq_false (Nat.not_lt.2 cN)
               try (have iC := iB; simp only [ByteArray.size_append] at iC)
               have H' := mk_ H; clear H; have mF := fE.out; have mG := cD.out; have mH : wr.cell? ⟨aZ, 0, none⟩ = some (.int .i64 ((rd_T93 l0_3 aA).f0)) := bc_ aE 0; have mI : wr.cell? ⟨aZ, 1, none⟩ = some (.slice A296_1 ((rd_T93 l0_3 aA).f1).length c296_1) := bc_ aE 1; have mJ : wr.cell? ⟨aZ, 2, none⟩ = some (.string ((rd_T93 l0_3 aA).f2)) := bc_ aE 2; have mK := blk_frozen aE.out 0; have mL := blk_frozen aE.out 1; have mM := blk_frozen aE.out 2
               go_wp2_with (first | ((with_reducible refine gate_callee (f := 38) rfl ?_); refine goesL_ (some 90) rfl rfl Try.func38 (by kernel_rfl) rfl #[.int .i64 ((rd_T93 l0_3 aA).f0), .int .i64 2] rfl (by (try simp only [List.map_toArray, List.map_cons, List.map_nil]); first | done | rfl | (simp only [List.length_drop, List.length_take]; rfl)) ?_; (with_reducible refine (rillmeterref22_num.calls k2 ((rd_T93 l0_3 aA).f0) 2 aP _ hX.out).mono ?_); rintro e mN ⟨rfl, hb⟩; refine ⟨_, rfl, ?_⟩; have n0_ := bb_ aC hb; have n1_ := bb_ aE hb; have n2_ := bs_ HB hb; clear aC; clear aE; clear HB; have aC := n0_; have aE := n1_; have HB := n2_; clear n0_ n1_ n2_; (try clear hb); (try clear hb2); (try clear hk); (try clear hi)) | ((with_reducible refine gate_callee (f := 38) rfl ?_); refine goesL_ (some 95) rfl rfl Try.func38 (by kernel_rfl) rfl #[.int .i64 (wrap64 (4 + (aK.size : Int))), .int .i64 2] rfl (by (try simp only [List.map_toArray, List.map_cons, List.map_nil]); first | done | rfl | (simp only [List.length_drop, List.length_take]; rfl)) ?_; (with_reducible refine (rillmeterref22_num.calls k2 (wrap64 (4 + (aK.size : Int))) 2 aS _ hY.out).mono ?_); rintro e mO ⟨rfl, hb⟩; refine ⟨_, rfl, ?_⟩; have n0_ := bb_ aC hb; have n1_ := bb_ aE hb; have n2_ := bs_ HB hb; clear aC; clear aE; clear HB; have aC := n0_; have aE := n1_; have HB := n2_; clear n0_ n1_ n2_; (try clear hb); (try clear hb2); (try clear hk); (try clear hi)))
               go_roundg k2
               case measure => have := HK1.out; have := HK2.out; omega
               case rel => exact ⟨(((aI ++ aP) ++ aS) ++ aK), (wrap64 (aA + 1)), (by first | rfl | (simp; done) | (simp [*]; done)), (by first | rfl | (simp; done) | (simp [*]; done)), H', ⟨by have := HK1.out; have := HK2.out; omega⟩, ⟨bk_ aC⟩, ⟨bl_ HB⟩⟩
              ·rw [if_neg cN] at H; exact absurd H (by simp)
             ·rw [if_neg cM] at H; exact absurd H (by simp)
            ·rw [if_neg cL] at H; exact absurd H (by simp)
       ·rw [if_neg bR] at H; exact absurd H (by simp)
      ·rw [if_neg bQ] at H; exact absurd H (by simp)
     ·rw [if_neg bH] at H; have dN : decide (aA < (l0_3.length : Int)) = false := decide_eq_false bH; clear bH
      by_cases bW : (aI.size : Int) > 65531
      ·rw [if_pos bW] at H; have iD : decide (65531 < (aI.size : Int)) = true := decide_eq_true bW; have iE : decide (65531 < aI.size) = true := decide_eq_true (by omega); clear bW; simp only [Option.some.injEq, Prod.mk.injEq] at H; obtain ⟨rfl, rfl⟩ := H
       go_wp2
       go_ret2
       exact ⟨by first | rfl | (simp [errW_none, errW_some] <;> rfl) | (simp [*, errW_none, errW_some] <;> rfl), bl_ HB⟩
      ·rw [if_neg bW] at H; have iD : decide (65531 < (aI.size : Int)) = false := decide_eq_false bW; have iE : decide (65531 < aI.size) = false := decide_eq_false (by omega); clear bW; replace H := Option.bind_eq_some_iff.mp H; obtain ⟨aY, fZ, H⟩ := H; replace H : ((rillmeterref22_num.f k1 (wrap64 (4 + (aI.size : Int))) 2).bind fun aU => (if aY.size + aU.size ≤ 9223372036854775807 then (if (aY ++ aU).size + aI.size ≤ 9223372036854775807 then (some ((aY ++ aU) ++ aI, true)) else (none)) else (none))) = some (r1, r2) := H; have iF := mk_ fZ; clear fZ; replace H := Option.bind_eq_some_iff.mp H; obtain ⟨aU, gA, H⟩ := H; replace H : (if aY.size + aU.size ≤ 9223372036854775807 then (if (aY ++ aU).size + aI.size ≤ 9223372036854775807 then (some ((aY ++ aU) ++ aI, true)) else (none)) else (none)) = some (r1, r2) := H; have iG := mk_ gA; clear gA
       by_cases cO : aY.size + aU.size ≤ 9223372036854775807
       ·rw [if_pos cO] at H; have mP := eq_true cO; have mQ : decide (aY.size + aU.size ≤ 9223372036854775807) = true := decide_eq_true cO
        try have mR : (9223372036854775807 < aY.size + aU.size) = False := eq_false (Nat.not_lt.2 cO)
        by_cases cP : (aY ++ aU).size + aI.size ≤ 9223372036854775807
        ·rw [if_pos cP] at H; have mS := eq_true cP; have mT : decide ((aY ++ aU).size + aI.size ≤ 9223372036854775807) = true := decide_eq_true cP
         try have iH : (9223372036854775807 < (aY ++ aU).size + aI.size) = False := eq_false (Nat.not_lt.2 cP)
         try (have iI := iH; simp only [ByteArray.size_append] at iI)
         simp only [Option.some.injEq, Prod.mk.injEq] at H; obtain ⟨rfl, rfl⟩ := H
         go_wp2_with (first | ((with_reducible refine gate_callee (f := 38) rfl ?_); refine goesL_ (some 103) rfl rfl Try.func38 (by kernel_rfl) rfl #[.int .i64 10, .int .i64 2] rfl (by (try simp only [List.map_toArray, List.map_cons, List.map_nil]); first | done | rfl | (simp only [List.length_drop, List.length_take]; rfl)) ?_; (with_reducible refine (rillmeterref22_num.calls k1 10 2 aY _ iF.out).mono ?_); rintro e mU ⟨rfl, hb⟩; refine ⟨_, rfl, ?_⟩; have n0_ := bb_ aC hb; have n1_ := bs_ HB hb; clear aC; clear HB; have aC := n0_; have HB := n1_; clear n0_ n1_; (try clear hb); (try clear hb2); (try clear hk); (try clear hi)) | ((with_reducible refine gate_callee (f := 38) rfl ?_); refine goesL_ (some 107) rfl rfl Try.func38 (by kernel_rfl) rfl #[.int .i64 (wrap64 (4 + (aI.size : Int))), .int .i64 2] rfl (by (try simp only [List.map_toArray, List.map_cons, List.map_nil]); first | done | rfl | (simp only [List.length_drop, List.length_take]; rfl)) ?_; (with_reducible refine (rillmeterref22_num.calls k1 (wrap64 (4 + (aI.size : Int))) 2 aU _ iG.out).mono ?_); rintro e mV ⟨rfl, hb⟩; refine ⟨_, rfl, ?_⟩; have n0_ := bb_ aC hb; have n1_ := bs_ HB hb; clear aC; clear HB; have aC := n0_; have HB := n1_; clear n0_ n1_; (try clear hb); (try clear hb2); (try clear hk); (try clear hi)))
         go_ret2
         exact ⟨by first | rfl | (simp [errW_none, errW_some] <;> rfl) | (simp [*, errW_none, errW_some] <;> rfl), bl_ HB⟩
        ·rw [if_neg cP] at H; exact absurd H (by simp)
       ·rw [if_neg cO] at H; exact absurd H (by simp)
  ·rw [if_neg c6] at H; exact absurd H (by simp)
 ·rw [if_neg c4] at H; exact absurd H (by simp)

end Go.Proofs.Ytojmpdjbhplgkaa.PIpfixPuts
