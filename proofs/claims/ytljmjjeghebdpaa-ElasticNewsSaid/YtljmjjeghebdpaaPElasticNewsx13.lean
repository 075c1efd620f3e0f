/- The functions that a law uses, each as a plain function, with the proof that a call of the Go function comes to its answer. Condition of each: the arguments read as the data that it names, and the plain function has an answer. Written by a program of this session (standin.py). -/
import Derived.Test.YtljmjjeghebdpaaPElasticNewsx0
import Derived.Test.YtljmjjeghebdpaaPElasticNewsx11
import Derived.Test.YtljmjjeghebdpaaPElasticNewsx12
import Derived.Test.YtljmjjeghebdpaaShort
import Derived.Lib.SliceRun
import Derived.Test.YtljmjjeghebdpaaPressMore
namespace Go.Proofs.Ytljmjjeghebdpaa.PElasticNews
open Go.RowKit Go.Proofs.YtljmjjeghebdpaaW.PrintWords Go.Proofs.YtljmjjeghebdpaaW.PrintLast Go.Proofs.YtljmjjeghebdpaaW.PrintMore Go.Proofs.Ytljmjjeghebdpaa.Short Go.Proofs.Ytljmjjeghebdpaa.Press Go.Proofs.Ytljmjjeghebdpaa.PressMore
attribute [local go_sem] max2_int min2_int max_two min_two max_three min_three max_four min_four   -- for this text's walks alone
set_option linter.unusedVariables false
set_option linter.unusedSimpArgs false

/-! ### rillmeterref15_Right: function 14 -/
mutual
def rillmeterref15_Right.j0 : Nat → Bool → Int → Int → Int → List (S74) → Int → Int → List (List Int) → Option (Bool)
  | 0, _, _, _, _, _, _, _, _ => none
  | k + 1, x35, x371000, x371001, x371002, x371003, x371004, x371005, x371006 => if x35 = true then (some false) else ((rillmeterref11_Right.f k x371004 x371005 x371006).bind fun t371 => (if t371 = true then (if x371005 = 255 then ((rillmeterref02_Row.f k x371000 1).bind fun t372 => (rillmeterref15_Right.j1 k (x371004 != t372) x371000 x371001 x371002 x371003 x371004 x371005 x371006)) else (rillmeterref15_Right.j1 k true x371000 x371001 x371002 x371003 x371004 x371005 x371006)) else (rillmeterref15_Right.j1 k true x371000 x371001 x371002 x371003 x371004 x371005 x371006)))
def rillmeterref15_Right.j1 : Nat → Bool → Int → Int → Int → List (S74) → Int → Int → List (List Int) → Option (Bool)
  | 0, _, _, _, _, _, _, _, _ => none
  | k + 1, x54, x371000, x371001, x371002, x371003, x371004, x371005, x371006 => if x54 = true then (some false) else (rillmeterref15_Right.l0 k 0 x371000 x371001 x371002 x371003 x371004 x371005 x371006)
def rillmeterref15_Right.l0 : Nat → Int → Int → Int → Int → List (S74) → Int → Int → List (List Int) → Option (Bool)
  | 0, _, _, _, _, _, _, _, _ => none
  | k + 1, x3, x371000, x371001, x371002, x371003, x371004, x371005, x371006 => if x3 < (x371003.length : Int) then (if 0 ≤ x3 then (if (((rd_T74 x371003 x3).f0).length : Int) > x371001 then (rillmeterref15_Right.j3 k x3 true x371000 x371001 x371002 x371003 x371004 x371005 x371006 ((rd_T74 x371003 x3).f0) ((rd_T74 x371003 x3).f1)) else (if ((rd_T74 x371003 x3).f1) < 0 then (rillmeterref15_Right.j3 k x3 true x371000 x371001 x371002 x371003 x371004 x371005 x371006 ((rd_T74 x371003 x3).f0) ((rd_T74 x371003 x3).f1)) else (rillmeterref15_Right.j3 k x3 (decide (((rd_T74 x371003 x3).f1) > 1099511627776)) x371000 x371001 x371002 x371003 x371004 x371005 x371006 ((rd_T74 x371003 x3).f0) ((rd_T74 x371003 x3).f1)))) else (none)) else (some true)
def rillmeterref15_Right.j3 : Nat → Int → Bool → Int → Int → Int → List (S74) → Int → Int → List (List Int) → List (S77) → Int → Option (Bool)
  | 0, _, _, _, _, _, _, _, _, _, _, _ => none
  | k + 1, x3, x82, x371000, x371001, x371002, x371003, x371004, x371005, x371006, x375000, x375001 => if x82 = true then (some false) else (rillmeterref15_Right.l1 k x3 0 x371000 x371001 x371002 x371003 x371004 x371005 x371006 x375000 x375001)
def rillmeterref15_Right.l1 : Nat → Int → Int → Int → Int → Int → List (S74) → Int → Int → List (List Int) → List (S77) → Int → Option (Bool)
  | 0, _, _, _, _, _, _, _, _, _, _, _ => none
  | k + 1, x3, x5, x371000, x371001, x371002, x371003, x371004, x371005, x371006, x375000, x375001 => if x5 < (x375000.length : Int) then (if 0 ≤ x5 then (if ((rd_T77 x375000 x5).f1) < 1 then (some false) else (if ((rd_T77 x375000 x5).f1) > 1099511627776 then (some false) else ((rillmeterref15_At.f k x375000 x375001 ((rd_T77 x375000 x5).f0)).bind fun t378 => (if t378 = x5 then (rillmeterref15_Right.l1 k x3 (wrap64 (x5 + 1)) x371000 x371001 x371002 x371003 x371004 x371005 x371006 x375000 x375001) else (some false))))) else (none)) else (rillmeterref15_Right.l0 k (wrap64 (x3 + 1)) x371000 x371001 x371002 x371003 x371004 x371005 x371006)
end
def rillmeterref15_Right.f (k : Nat) (a0_0 : Int) (a0_1 : Int) (a0_2 : Int) (l0_3 : List (S74)) (a0_4 : Int) (a0_5 : Int) (l0_6 : List (List Int)) : Option (Bool) := if a0_1 < 1 then (rillmeterref15_Right.j0 k true a0_0 a0_1 a0_2 l0_3 a0_4 a0_5 l0_6) else (if a0_1 > 8 then (rillmeterref15_Right.j0 k true a0_0 a0_1 a0_2 l0_3 a0_4 a0_5 l0_6) else (if a0_2 < 1 then (rillmeterref15_Right.j0 k true a0_0 a0_1 a0_2 l0_3 a0_4 a0_5 l0_6) else (if a0_2 > 64 then (rillmeterref15_Right.j0 k true a0_0 a0_1 a0_2 l0_3 a0_4 a0_5 l0_6) else (if (l0_3.length : Int) = 0 then (rillmeterref15_Right.j0 k true a0_0 a0_1 a0_2 l0_3 a0_4 a0_5 l0_6) else (rillmeterref15_Right.j0 k (decide ((l0_3.length : Int) > 256)) a0_0 a0_1 a0_2 l0_3 a0_4 a0_5 l0_6)))))
theorem rillmeterref15_Right.mono_l : ∀ k, (∀ y0 y1 y2 y3 y4 y5 y6 y7, LeO (rillmeterref15_Right.j0 k y0 y1 y2 y3 y4 y5 y6 y7) (rillmeterref15_Right.j0 (k + 1) y0 y1 y2 y3 y4 y5 y6 y7)) ∧ (∀ y0 y1 y2 y3 y4 y5 y6 y7, LeO (rillmeterref15_Right.j1 k y0 y1 y2 y3 y4 y5 y6 y7) (rillmeterref15_Right.j1 (k + 1) y0 y1 y2 y3 y4 y5 y6 y7)) ∧ (∀ y0 y1 y2 y3 y4 y5 y6 y7, LeO (rillmeterref15_Right.l0 k y0 y1 y2 y3 y4 y5 y6 y7) (rillmeterref15_Right.l0 (k + 1) y0 y1 y2 y3 y4 y5 y6 y7)) ∧ (∀ y0 y1 y2 y3 y4 y5 y6 y7 y8 y9 y10, LeO (rillmeterref15_Right.j3 k y0 y1 y2 y3 y4 y5 y6 y7 y8 y9 y10) (rillmeterref15_Right.j3 (k + 1) y0 y1 y2 y3 y4 y5 y6 y7 y8 y9 y10)) ∧ (∀ y0 y1 y2 y3 y4 y5 y6 y7 y8 y9 y10, LeO (rillmeterref15_Right.l1 k y0 y1 y2 y3 y4 y5 y6 y7 y8 y9 y10) (rillmeterref15_Right.l1 (k + 1) y0 y1 y2 y3 y4 y5 y6 y7 y8 y9 y10))
  | 0 => ⟨fun _ _ _ _ _ _ _ _ r h => by simp [rillmeterref15_Right.j0] at h, fun _ _ _ _ _ _ _ _ r h => by simp [rillmeterref15_Right.j1] at h, fun _ _ _ _ _ _ _ _ r h => by simp [rillmeterref15_Right.l0] at h, fun _ _ _ _ _ _ _ _ _ _ _ r h => by simp [rillmeterref15_Right.j3] at h, fun _ _ _ _ _ _ _ _ _ _ _ r h => by simp [rillmeterref15_Right.l1] at h⟩
  | k + 1 => by
    obtain ⟨ih0, ih1, ih2, ih3, ih4⟩ := rillmeterref15_Right.mono_l k
    refine ⟨?_, ?_, ?_, ?_, ?_⟩
    · intro y0 y1 y2 y3 y4 y5 y6 y7
      unfold rillmeterref15_Right.j0
      repeat' first
      | (with_reducible exact ih0 _ _ _ _ _ _ _ _)
      | (with_reducible exact ih1 _ _ _ _ _ _ _ _)
      | (with_reducible exact ih2 _ _ _ _ _ _ _ _)
      | (with_reducible exact ih3 _ _ _ _ _ _ _ _ _ _ _)
      | (with_reducible exact ih4 _ _ _ _ _ _ _ _ _ _ _)
      | (with_reducible exact rillmeterref02_Row.mono _ _ _)
      | (with_reducible exact rillmeterref11_Right.mono _ _ _ _)
      | (with_reducible exact rillmeterref15_At.mono _ _ _ _)
      | (with_reducible exact LeO.refl _)
      | (with_reducible exact LeO.none _)
      | (with_reducible refine LeO.ite ?_ ?_)
      | (with_reducible refine LeO.bind ?_ (fun _ => ?_))
      | exact ih0 _ _ _ _ _ _ _ _
      | exact ih1 _ _ _ _ _ _ _ _
      | exact ih2 _ _ _ _ _ _ _ _
      | exact ih3 _ _ _ _ _ _ _ _ _ _ _
      | exact ih4 _ _ _ _ _ _ _ _ _ _ _
      | exact rillmeterref02_Row.mono _ _ _
      | exact rillmeterref11_Right.mono _ _ _ _
      | exact rillmeterref15_At.mono _ _ _ _
      | exact LeO.none _
      | refine LeO.ite ?_ ?_
      | refine LeO.bind ?_ (fun _ => ?_)
    · intro y0 y1 y2 y3 y4 y5 y6 y7
      unfold rillmeterref15_Right.j1
      repeat' first
      | (with_reducible exact ih0 _ _ _ _ _ _ _ _)
      | (with_reducible exact ih1 _ _ _ _ _ _ _ _)
      | (with_reducible exact ih2 _ _ _ _ _ _ _ _)
      | (with_reducible exact ih3 _ _ _ _ _ _ _ _ _ _ _)
      | (with_reducible exact ih4 _ _ _ _ _ _ _ _ _ _ _)
      | (with_reducible exact rillmeterref02_Row.mono _ _ _)
      | (with_reducible exact rillmeterref11_Right.mono _ _ _ _)
      | (with_reducible exact rillmeterref15_At.mono _ _ _ _)
      | (with_reducible exact LeO.refl _)
      | (with_reducible exact LeO.none _)
      | (with_reducible refine LeO.ite ?_ ?_)
      | (with_reducible refine LeO.bind ?_ (fun _ => ?_))
      | exact ih0 _ _ _ _ _ _ _ _
      | exact ih1 _ _ _ _ _ _ _ _
      | exact ih2 _ _ _ _ _ _ _ _
      | exact ih3 _ _ _ _ _ _ _ _ _ _ _
      | exact ih4 _ _ _ _ _ _ _ _ _ _ _
      | exact rillmeterref02_Row.mono _ _ _
      | exact rillmeterref11_Right.mono _ _ _ _
      | exact rillmeterref15_At.mono _ _ _ _
      | exact LeO.none _
      | refine LeO.ite ?_ ?_
      | refine LeO.bind ?_ (fun _ => ?_)
    · intro y0 y1 y2 y3 y4 y5 y6 y7
      unfold rillmeterref15_Right.l0
      repeat' first
      | (with_reducible exact ih0 _ _ _ _ _ _ _ _)
      | (with_reducible exact ih1 _ _ _ _ _ _ _ _)
      | (with_reducible exact ih2 _ _ _ _ _ _ _ _)
      | (with_reducible exact ih3 _ _ _ _ _ _ _ _ _ _ _)
      | (with_reducible exact ih4 _ _ _ _ _ _ _ _ _ _ _)
      | (with_reducible exact rillmeterref02_Row.mono _ _ _)
      | (with_reducible exact rillmeterref11_Right.mono _ _ _ _)
      | (with_reducible exact rillmeterref15_At.mono _ _ _ _)
      | (with_reducible exact LeO.refl _)
      | (with_reducible exact LeO.none _)
      | (with_reducible refine LeO.ite ?_ ?_)
      | (with_reducible refine LeO.bind ?_ (fun _ => ?_))
      | exact ih0 _ _ _ _ _ _ _ _
      | exact ih1 _ _ _ _ _ _ _ _
      | exact ih2 _ _ _ _ _ _ _ _
      | exact ih3 _ _ _ _ _ _ _ _ _ _ _
      | exact ih4 _ _ _ _ _ _ _ _ _ _ _
      | exact rillmeterref02_Row.mono _ _ _
      | exact rillmeterref11_Right.mono _ _ _ _
      | exact rillmeterref15_At.mono _ _ _ _
      | exact LeO.none _
      | refine LeO.ite ?_ ?_
      | refine LeO.bind ?_ (fun _ => ?_)
    · intro y0 y1 y2 y3 y4 y5 y6 y7 y8 y9 y10
      unfold rillmeterref15_Right.j3
      repeat' first
      | (with_reducible exact ih0 _ _ _ _ _ _ _ _)
      | (with_reducible exact ih1 _ _ _ _ _ _ _ _)
      | (with_reducible exact ih2 _ _ _ _ _ _ _ _)
      | (with_reducible exact ih3 _ _ _ _ _ _ _ _ _ _ _)
      | (with_reducible exact ih4 _ _ _ _ _ _ _ _ _ _ _)
      | (with_reducible exact rillmeterref02_Row.mono _ _ _)
      | (with_reducible exact rillmeterref11_Right.mono _ _ _ _)
      | (with_reducible exact rillmeterref15_At.mono _ _ _ _)
      | (with_reducible exact LeO.refl _)
      | (with_reducible exact LeO.none _)
      | (with_reducible refine LeO.ite ?_ ?_)
      | (with_reducible refine LeO.bind ?_ (fun _ => ?_))
      | exact ih0 _ _ _ _ _ _ _ _
      | exact ih1 _ _ _ _ _ _ _ _
      | exact ih2 _ _ _ _ _ _ _ _
      | exact ih3 _ _ _ _ _ _ _ _ _ _ _
      | exact ih4 _ _ _ _ _ _ _ _ _ _ _
      | exact rillmeterref02_Row.mono _ _ _
      | exact rillmeterref11_Right.mono _ _ _ _
      | exact rillmeterref15_At.mono _ _ _ _
      | exact LeO.none _
      | refine LeO.ite ?_ ?_
      | refine LeO.bind ?_ (fun _ => ?_)
    · intro y0 y1 y2 y3 y4 y5 y6 y7 y8 y9 y10
      unfold rillmeterref15_Right.l1
      repeat' first
      | (with_reducible exact ih0 _ _ _ _ _ _ _ _)
      | (with_reducible exact ih1 _ _ _ _ _ _ _ _)
      | (with_reducible exact ih2 _ _ _ _ _ _ _ _)
      | (with_reducible exact ih3 _ _ _ _ _ _ _ _ _ _ _)
      | (with_reducible exact ih4 _ _ _ _ _ _ _ _ _ _ _)
      | (with_reducible exact rillmeterref02_Row.mono _ _ _)
      | (with_reducible exact rillmeterref11_Right.mono _ _ _ _)
      | (with_reducible exact rillmeterref15_At.mono _ _ _ _)
      | (with_reducible exact LeO.refl _)
      | (with_reducible exact LeO.none _)
      | (with_reducible refine LeO.ite ?_ ?_)
      | (with_reducible refine LeO.bind ?_ (fun _ => ?_))
      | exact ih0 _ _ _ _ _ _ _ _
      | exact ih1 _ _ _ _ _ _ _ _
      | exact ih2 _ _ _ _ _ _ _ _
      | exact ih3 _ _ _ _ _ _ _ _ _ _ _
      | exact ih4 _ _ _ _ _ _ _ _ _ _ _
      | exact rillmeterref02_Row.mono _ _ _
      | exact rillmeterref11_Right.mono _ _ _ _
      | exact rillmeterref15_At.mono _ _ _ _
      | exact LeO.none _
      | refine LeO.ite ?_ ?_
      | refine LeO.bind ?_ (fun _ => ?_)
theorem rillmeterref15_Right.mono : ∀ a0 a1 a2 a3 a4 a5 a6 k, LeO (rillmeterref15_Right.f k a0 a1 a2 a3 a4 a5 a6) (rillmeterref15_Right.f (k + 1) a0 a1 a2 a3 a4 a5 a6) := by
  intro a0 a1 a2 a3 a4 a5 a6 k
  obtain ⟨ih0, ih1, ih2, ih3, ih4⟩ := rillmeterref15_Right.mono_l k
  unfold rillmeterref15_Right.f
  repeat' first
      | (with_reducible exact ih0 _ _ _ _ _ _ _ _)
      | (with_reducible exact ih1 _ _ _ _ _ _ _ _)
      | (with_reducible exact ih2 _ _ _ _ _ _ _ _)
      | (with_reducible exact ih3 _ _ _ _ _ _ _ _ _ _ _)
      | (with_reducible exact ih4 _ _ _ _ _ _ _ _ _ _ _)
      | (with_reducible exact rillmeterref02_Row.mono _ _ _)
      | (with_reducible exact rillmeterref11_Right.mono _ _ _ _)
      | (with_reducible exact rillmeterref15_At.mono _ _ _ _)
      | (with_reducible exact LeO.refl _)
      | (with_reducible exact LeO.none _)
      | (with_reducible refine LeO.ite ?_ ?_)
      | (with_reducible refine LeO.bind ?_ (fun _ => ?_))
      | exact ih0 _ _ _ _ _ _ _ _
      | exact ih1 _ _ _ _ _ _ _ _
      | exact ih2 _ _ _ _ _ _ _ _
      | exact ih3 _ _ _ _ _ _ _ _ _ _ _
      | exact ih4 _ _ _ _ _ _ _ _ _ _ _
      | exact rillmeterref02_Row.mono _ _ _
      | exact rillmeterref11_Right.mono _ _ _ _
      | exact rillmeterref15_At.mono _ _ _ _
      | exact LeO.none _
      | refine LeO.ite ?_ ?_
      | refine LeO.bind ?_ (fun _ => ?_)
def rillmeterref15_Right.T3 : Bool × List (List Nat × List Nat) := (true, [([], []), ([0], [0]), ([1], [1]), ([2], [2]), ([3, 2], [3]), ([4], [4]), ([5, 4], [4, 5]), ([6, 4], [4, 6]), ([7, 4], [4, 7]), ([4, 8], [4, 8]), ([9, 4], [9]), ([10], [10]), ([11, 10], [10, 11]), ([12, 10], [10, 12]), ([10], [10]), ([14, 10], [10, 14]), ([15, 10, 10], [10, 15]), ([13, 16, 10], [10, 13, 16]), ([10, 17], [10, 17])])
def rillmeterref15_Right.B3 : List Nat := [0, 1, 3, 7, 15, 31, 63, 127, 255, 511, 1023, 2047, 4095, 8191, 2047, 18431, 51199, 131071, 262143]
theorem rillmeterref15_Right.tab3 : rtab .any (opsOf Try.f14 3) = rillmeterref15_Right.T3 := by kernel_rfl
theorem rillmeterref15_Right.bits3 : waitsOk rillmeterref15_Right.T3.2 rillmeterref15_Right.B3 = true := by kernel_rfl
def rillmeterref15_Right.T14 : Bool × List (List Nat × List Nat) := (true, [([], []), ([0], [0]), ([], []), ([1, 2], [1, 2]), ([3], [3]), ([4], [4]), ([5], [5]), ([6], [6]), ([7], [7]), ([8, 7], [7, 8]), ([7], [7]), ([9, 10, 7], [7, 9, 10]), ([11, 7], [7, 11]), ([12, 7], [7, 12]), ([13, 7], [7, 13]), ([7, 14], [7, 14]), ([15, 7], [15]), ([16], [16]), ([16], [16]), ([18, 16], [16, 18]), ([16], [16]), ([19, 20, 16], [16, 19, 20]), ([21, 16], [16, 21]), ([22, 16], [16, 22]), ([17, 23, 16, 16], [16, 17, 23]), ([16], [16]), ([24, 25, 16], [16, 24, 25]), ([16, 26], [16, 26])])
def rillmeterref15_Right.B14 : List Nat := [0, 1, 0, 7, 15, 31, 63, 127, 255, 511, 255, 2047, 4095, 8191, 16383, 32767, 65535, 131071, 131071, 393215, 131071, 1966079, 4063231, 8257535, 16777215, 131071, 67108863, 134217727]
theorem rillmeterref15_Right.tab14 : rtab .any (opsOf Try.f14 14) = rillmeterref15_Right.T14 := by kernel_rfl
theorem rillmeterref15_Right.bits14 : waitsOk rillmeterref15_Right.T14.2 rillmeterref15_Right.B14 = true := by kernel_rfl
set_option maxHeartbeats 80000000 in
set_option maxRecDepth 100000 in
theorem rillmeterref15_Right.calls (k : Nat) (a0_0 : Int) (a0_1 : Int) (a0_2 : Int) (A0_3 : Option Addr) (c0_3 : Nat) (l0_3 : List (S74)) (a0_4 : Int) (a0_5 : Int) (A0_6 : Option Addr) (c0_6 : Nat) (l0_6 : List (List Int)) (r : Bool) (w : World) (hr0_3 : Kd.C k74 w A0_3 l0_3.length l0_3) (hc0_3 : l0_3.length ≤ c0_3) (hr0_6 : Kd.C (Kd.slice 3 (Kd.int .i64)) w A0_6 l0_6.length l0_6) (hc0_6 : l0_6.length ≤ c0_6) (h : rillmeterref15_Right.f k a0_0 a0_1 a0_2 l0_3 a0_4 a0_5 l0_6 = some r) :
    Calls Try.prog 14 #[.agg #[.int .u64 a0_0, .int .i64 a0_1, .int .i64 a0_2, .slice A0_3 l0_3.length c0_3, .int .u64 a0_4, .int .i64 a0_5, .slice A0_6 l0_6.length c0_6]] w fun e w' => e = .returned (.bool r) ∧ Below w.heap.size w w' := by
 have hu32 := Try.underlying32; have hu30 := Try.underlying30; have hu74 := Try.underlying74; have jE := mk_ hr0_3; have mE := mk_ hc0_3; clear hr0_3 hc0_3; have fN := mk_ hr0_6; have fO := mk_ hc0_6; clear hr0_6 hc0_6; have HB := mk_ (Below.refl w.heap.size w); have H : (if a0_1 < 1 then (rillmeterref15_Right.j0 k true a0_0 a0_1 a0_2 l0_3 a0_4 a0_5 l0_6) else (if a0_1 > 8 then (rillmeterref15_Right.j0 k true a0_0 a0_1 a0_2 l0_3 a0_4 a0_5 l0_6) else (if a0_2 < 1 then (rillmeterref15_Right.j0 k true a0_0 a0_1 a0_2 l0_3 a0_4 a0_5 l0_6) else (if a0_2 > 64 then (rillmeterref15_Right.j0 k true a0_0 a0_1 a0_2 l0_3 a0_4 a0_5 l0_6) else (if (l0_3.length : Int) = 0 then (rillmeterref15_Right.j0 k true a0_0 a0_1 a0_2 l0_3 a0_4 a0_5 l0_6) else (rillmeterref15_Right.j0 k (decide ((l0_3.length : Int) > 256)) a0_0 a0_1 a0_2 l0_3 a0_4 a0_5 l0_6)))))) = some r := h; clear h; have HC2 := mk_ H; clear H
 go_enter Try.func14, Try.ntmps14
 go_upto_region 1 with (first | ((with_reducible refine gate_dst (N := 1) rfl ?_); (try (refine gate_guard (by rfl) ?_; dsimp only)); refine box_event ?hg (N := 1) ?hd (cs := #[.int .u64 a0_0, .int .i64 a0_1, .int .i64 a0_2, .slice A0_3 l0_3.length c0_3, .int .u64 a0_4, .int .i64 a0_5, .slice A0_6 l0_6.length c0_6]) (t := 32) ?hr ?_; (case hd => rfl); (case hg => rfl); (case hr => first | (go_simp; done) | (go_simp; rfl)); intro aD hg w3 hbox hb; have n0_ := bs_ HB hb; have n1_ := mk_ (hbox); have n2_ := gx_ hg HB; have n3_ := gx_ hg HB; clear HB; have HB := n0_; have aA := n1_; have mF := n2_; have mG := n3_; clear n0_ n1_ n2_ n3_; clear hb hbox hg))
 (try simp only [Act.put, sa_, sb_, sc_])
 go_cut [35] (fun jF wc => ∃ (kq : Nat) (fI : Bool), jF = .bool fI ∧ Aside0 (rillmeterref15_Right.j0 kq fI a0_0 a0_1 a0_2 l0_3 a0_4 a0_5 l0_6 = some r) ∧ Aside0 (kq ≤ k) ∧ Aside0 (wc.heap[aD]? = some (.cells #[.int .u64 a0_0, .int .i64 a0_1, .int .i64 a0_2, (.slice A0_3 l0_3.length c0_3), .int .u64 a0_4, .int .i64 a0_5, (.slice A0_6 l0_6.length c0_6)] 32 (0, 0))) ∧ Aside0 (Below w.heap.size w wc))
 case first =>
  have H := HC2.out; clear HC2
  by_cases c4 : a0_1 < 1
  ·rw [if_pos c4] at H; have bY : decide (a0_1 < 1) = true := decide_eq_true c4; clear c4
   (first | rw [bY] | (simp only [i64_w, i32_w]; rw [bY]) | skip)
   have H' := mk_ H; clear H; obtain ⟨jG, jH, jI, jJ, jK, jL, jM⟩ := cz7_ aA; obtain ⟨cD, cE, cF, cG, cH, cI, cJ⟩ := fz7_ aA
   go_wp2
   go_meet
   case rel => exact ⟨_, (true), (by first | rfl | (simp; done) | (simp [*]; done)), H', ⟨by first | omega | exact Nat.le_refl _⟩, ⟨bk_ aA⟩, ⟨bl_ HB⟩⟩
  ·rw [if_neg c4] at H; have bY : decide (a0_1 < 1) = false := decide_eq_false c4; clear c4
   (first | rw [bY] | (simp only [i64_w, i32_w]; rw [bY]) | skip)
   by_cases c6 : a0_1 > 8
   ·rw [if_pos c6] at H; have fV : decide (8 < a0_1) = true := decide_eq_true c6; clear c6; have H' := mk_ H; clear H; obtain ⟨jN, jO, jP, jQ, jR, jS, jT⟩ := cz7_ aA; obtain ⟨cK, cL, cM, cN, cO, cP, cQ⟩ := fz7_ aA
    go_wp2
    go_meet
    case rel => exact ⟨_, (true), (by first | rfl | (simp; done) | (simp [*]; done)), H', ⟨by first | omega | exact Nat.le_refl _⟩, ⟨bk_ aA⟩, ⟨bl_ HB⟩⟩
   ·rw [if_neg c6] at H; have fV : decide (8 < a0_1) = false := decide_eq_false c6; clear c6
    by_cases c8 : a0_2 < 1
    ·rw [if_pos c8] at H; have fW : decide (a0_2 < 1) = true := decide_eq_true c8; clear c8; have H' := mk_ H; clear H; obtain ⟨cR, cS, cT, cU, cV, cW, cX⟩ := cz7_ aA; obtain ⟨cY, cZ, dA, dB, dC, dD, dE⟩ := fz7_ aA
     go_wp2
     go_meet
     case rel => exact ⟨_, (true), (by first | rfl | (simp; done) | (simp [*]; done)), H', ⟨by first | omega | exact Nat.le_refl _⟩, ⟨bk_ aA⟩, ⟨bl_ HB⟩⟩
    ·rw [if_neg c8] at H; have fW : decide (a0_2 < 1) = false := decide_eq_false c8; clear c8
     by_cases bS : a0_2 > 64
     ·rw [if_pos bS] at H; have fX : decide (64 < a0_2) = true := decide_eq_true bS; clear bS; have H' := mk_ H; clear H; obtain ⟨jU, jV, jW, jX, jY, jZ, lA⟩ := cz7_ aA; obtain ⟨dF, dG, dH, dI, dJ, dK, dL⟩ := fz7_ aA
      go_wp2
      go_meet
      case rel => exact ⟨_, (true), (by first | rfl | (simp; done) | (simp [*]; done)), H', ⟨by first | omega | exact Nat.le_refl _⟩, ⟨bk_ aA⟩, ⟨bl_ HB⟩⟩
     ·rw [if_neg bS] at H; have fX : decide (64 < a0_2) = false := decide_eq_false bS; clear bS
      by_cases bF : (l0_3.length : Int) = 0
      ·rw [if_pos bF] at H; have fY : ((l0_3.length : Int) == 0) = true := beq_iff_eq.mpr bF; have fZ : ((l0_3.length : Int) != 0) = false := bne_eq_false_iff_eq.mpr bF; clear bF; have H' := mk_ H; clear H; obtain ⟨lB, lC, lD, lE, lF, lG, lH⟩ := cz7_ aA; obtain ⟨dM, dN, dO, dP, dQ, dR, dS⟩ := fz7_ aA
       go_wp2
       go_meet
       case rel => exact ⟨_, (true), (by first | rfl | (simp; done) | (simp [*]; done)), H', ⟨by first | omega | exact Nat.le_refl _⟩, ⟨bk_ aA⟩, ⟨bl_ HB⟩⟩
      ·rw [if_neg bF] at H; have fY : ((l0_3.length : Int) == 0) = false := beq_eq_false_iff_ne.mpr bF; have fZ : ((l0_3.length : Int) != 0) = true := bne_iff_ne.mpr bF
       have lI : ¬ (l0_3 = []) := fun h_ => bF (by rw [h_]; rfl)
       have H' := mk_ H; clear H; obtain ⟨lJ, lK, lL, lM, lN, lO, lP⟩ := cz7_ aA; obtain ⟨dT, dU, dV, dW, dX, dY, dZ⟩ := fz7_ aA
       go_wp2
       go_meet
       case rel => exact ⟨_, (decide ((l0_3.length : Int) > 256)), (by first | rfl | (simp; done) | (simp [*]; done)), H', ⟨by first | omega | exact Nat.le_refl _⟩, ⟨bk_ aA⟩, ⟨bl_ HB⟩⟩
 case rest =>
  clear HC2; (try clear c1); (try clear p2); (try clear c4); (try clear bY); (try clear c6); (try clear fV); (try clear c8); (try clear fW); (try clear bS); (try clear fX); (try clear bF); (try clear fY); (try clear fZ); (try clear lI); (try clear mH); (try clear jU); (try clear jV); (try clear jW); (try clear jX); (try clear jY); (try clear jZ); (try clear lA); (try clear lB); (try clear lC); (try clear lD); (try clear lE); (try clear lF); (try clear lG); (try clear lH); (try clear lJ); (try clear lK); (try clear lL); (try clear lM); (try clear lN); (try clear lO); (try clear lP); (try clear jG); (try clear jH); (try clear jI); (try clear jJ); (try clear jK); (try clear jL); (try clear jM); (try clear jN); (try clear jO); (try clear jP); (try clear jQ); (try clear jR); (try clear jS); (try clear jT); (try clear cR); (try clear cS); (try clear cT); (try clear cU); (try clear cV); (try clear cW); (try clear cX); (try clear dF); (try clear dG); (try clear dH); (try clear dI); (try clear dJ); (try clear dK); (try clear dL); (try clear dM); (try clear dN); (try clear dO); (try clear dP); (try clear dQ); (try clear dR); (try clear dS); (try clear dT); (try clear dU); (try clear dV)
  (try clear dW); (try clear dX); (try clear dY); (try clear dZ); (try clear cD); (try clear cE); (try clear cF); (try clear cG); (try clear cH); (try clear cI); (try clear cJ); (try clear cK); (try clear cL); (try clear cM); (try clear cN); (try clear cO); (try clear cP); (try clear cQ); (try clear cY); (try clear cZ); (try clear dA); (try clear dB); (try clear dC); (try clear dD); (try clear dE); obtain ⟨kq, fI, rfl, HA, HJ1, aA, HB⟩ := hcut
  cases kq with
  | zero => exact absurd HA.out (by simp [rillmeterref15_Right.j0])
  | succ aL =>
   have H := HA.out; clear HA; simp only [rillmeterref15_Right.j0] at H
   by_cases bM : fI = true
   ·subst bM
    have H1 : (some false) = some r := by rw [if_pos rfl] at H; exact H
    clear H; have H := H1; clear H1; obtain rfl := Option.some.inj H
    go_wp2
    go_ret; exact ⟨by first | rfl | (simp [errW_none, errW_some] <;> rfl) | (simp [*, errW_none, errW_some] <;> rfl), bl_ HB⟩
   ·replace bM := Bool.eq_false_iff.mpr bM; subst bM
    have H1 : ((rillmeterref11_Right.f aL a0_4 a0_5 l0_6).bind fun fJ => (if fJ = true then (if a0_5 = 255 then ((rillmeterref02_Row.f aL a0_0 1).bind fun bG => (rillmeterref15_Right.j1 aL (a0_4 != bG) a0_0 a0_1 a0_2 l0_3 a0_4 a0_5 l0_6)) else (rillmeterref15_Right.j1 aL true a0_0 a0_1 a0_2 l0_3 a0_4 a0_5 l0_6)) else (rillmeterref15_Right.j1 aL true a0_0 a0_1 a0_2 l0_3 a0_4 a0_5 l0_6))) = some r := by rw [if_neg (show ¬ (false = true) by decide)] at H; exact H
    clear H; have H := H1; clear H1; have HC16 := mk_ H; clear H
    go_upto_region 3 with (fail)
    go_cut [54] (fun lQ wc => ∃ (kq : Nat) (fK : Bool), lQ = .bool fK ∧ Aside0 (rillmeterref15_Right.j1 kq fK a0_0 a0_1 a0_2 l0_3 a0_4 a0_5 l0_6 = some r) ∧ Aside0 (kq ≤ aL) ∧ Aside0 (wc.heap[aD]? = some (.cells #[.int .u64 a0_0, .int .i64 a0_1, .int .i64 a0_2, (.slice A0_3 l0_3.length c0_3), .int .u64 a0_4, .int .i64 a0_5, (.slice A0_6 l0_6.length c0_6)] 32 (0, 0))) ∧ Aside0 (Below w.heap.size w wc))
    case first =>
     have H := HC16.out; clear HC16; replace H := Option.bind_eq_some_iff.mp H; obtain ⟨fJ, gA, H⟩ := H; replace H : (if fJ = true then (if a0_5 = 255 then ((rillmeterref02_Row.f aL a0_0 1).bind fun bG => (rillmeterref15_Right.j1 aL (a0_4 != bG) a0_0 a0_1 a0_2 l0_3 a0_4 a0_5 l0_6)) else (rillmeterref15_Right.j1 aL true a0_0 a0_1 a0_2 l0_3 a0_4 a0_5 l0_6)) else (rillmeterref15_Right.j1 aL true a0_0 a0_1 a0_2 l0_3 a0_4 a0_5 l0_6)) = some r := H; have fP := mk_ gA; clear gA
     by_cases bN : fJ = true
     ·subst bN
      have H1 : (if a0_5 = 255 then ((rillmeterref02_Row.f aL a0_0 1).bind fun bG => (rillmeterref15_Right.j1 aL (a0_4 != bG) a0_0 a0_1 a0_2 l0_3 a0_4 a0_5 l0_6)) else (rillmeterref15_Right.j1 aL true a0_0 a0_1 a0_2 l0_3 a0_4 a0_5 l0_6)) = some r := by rw [if_pos rfl] at H; exact H
      clear H; have H := H1; clear H1
      by_cases aY : a0_5 = 255
      ·rw [if_pos aY] at H; have bH : (a0_5 == 255) = true := beq_iff_eq.mpr aY; have fA : (a0_5 != 255) = false := bne_eq_false_iff_eq.mpr aY; clear aY
       (first | rw [bH] | (simp only [i64_w, i32_w]; rw [bH]) | skip)
       replace H := Option.bind_eq_some_iff.mp H; obtain ⟨bG, gB, H⟩ := H; replace H : (rillmeterref15_Right.j1 aL (a0_4 != bG) a0_0 a0_1 a0_2 l0_3 a0_4 a0_5 l0_6) = some r := H; have lR := mk_ gB; clear gB; have H' := mk_ H; clear H
       try go_wp2
       replace aA := bd_ aA; replace HB := mk_ (below_drew1 HB.out); refine start_ (n := 19) (S := fun w' => w'.cell? ⟨aD, 0, none⟩ = some (.int .u64 a0_0) ∧ w'.cell? ⟨aD, 1, none⟩ = some (.int .i64 a0_1) ∧ w'.cell? ⟨aD, 2, none⟩ = some (.int .i64 a0_2) ∧ w'.cell? ⟨aD, 3, none⟩ = some (.slice A0_3 l0_3.length c0_3) ∧ w'.cell? ⟨aD, 4, none⟩ = some (.int .u64 a0_4) ∧ w'.cell? ⟨aD, 5, none⟩ = some (.int .i64 a0_5) ∧ w'.cell? ⟨aD, 6, none⟩ = some (.slice A0_6 l0_6.length c0_6)) (ds := []) (mB 19 0) (by kernel_rfl) rfl rfl ⟨bc_ aA 0, bc_ aA 1, bc_ aA 2, bc_ aA 3, bc_ aA 4, bc_ aA 5, bc_ aA 6⟩ (fun hHeld => ?_); refine with_tabW rillmeterref15_Right.tab3 rillmeterref15_Right.bits3 (fun HT_ HW_ => ?_); generalize wc.drew = mI at aA HB hHeld ⊢; refine pq_ 0 36 19 1 HT_ ?_
       refine tq_ 1 37 19 3 HT_ HW_ hHeld ?_
       refine one_ (i := 2) (N := some 38) (mB 19 7) rfl rfl (one_of HT_.out (by kernel_rfl)) (by decide) (fun K hK => ?_); refine goes_ Try.func39 (by kernel_rfl) rfl #[.agg #[.int .u64 a0_4, .int .i64 a0_5, .slice A0_6 l0_6.length c0_6]] (by rfl) rfl rfl (by (try simp only [List.map_toArray, List.map_cons, List.map_nil]); first | done | rfl | (simp only [List.length_drop, List.length_take]; rfl)) ?_; with_reducible refine (rillmeterref11_Right.calls aL a0_4 a0_5 _ _ l0_6 true _ ?side1 ?side2 fP.out).mono ?_
       (case side1 => repeat (first | exact (Kd.C_below fN.out HB.out) | (with_reducible refine Kd.C_alloc ?_ _) | (with_reducible refine Kd.C_drewN ?_ _) | (with_reducible refine Kd.C_drew ?_))); (case side2 => exact fO.out); rintro e mJ ⟨rfl, hb⟩; refine ⟨_, rfl, ?_⟩; replace aA := bb_ aA hb; replace HB := bs_ HB hb; (try clear hb); refine hK.out _ _ ⟨bc_ aA 0, bc_ aA 1, bc_ aA 2, bc_ aA 3, bc_ aA 4, bc_ aA 5, bc_ aA 6⟩ (fun hHeld => ?_); clear hK K; refine norm_ (a' := ?_) ?_ ?_; rotate_left
       ·show Act.put _ (some 38) _ = _
        simp only [Act.put, sa_, sb_, sc_, i64_w, i32_w]; rfl
       refine pq_ 3 39 19 15 HT_ ?_
       refine pq_ 4 40 19 31 HT_ ?_
       refine pq_ 5 41 19 63 HT_ ?_
       refine pq_ 6 42 19 127 HT_ ?_
       refine tq_ 7 43 19 255 HT_ HW_ hHeld ?_
       refine pq_ 8 44 19 511 HT_ ?_
       refine pq_ 9 45 19 1023 HT_ ?_
       refine pq_ 10 46 19 2047 HT_ ?_
       refine pq_ 11 47 19 4095 HT_ ?_
       refine pq_ 12 48 19 8191 HT_ ?_
       refine pq_ 14 50 19 24575 HT_ ?_
       refine tq_ 13 49 19 32767 HT_ HW_ hHeld ?_
       refine tq_ 15 51 19 65535 HT_ HW_ hHeld ?_
       refine one_ (i := 16) (N := some 52) (mB 19 131071) rfl rfl (one_of HT_.out (by kernel_rfl)) (by decide) (fun K hK => ?_); refine goes_ Try.func40 (by kernel_rfl) rfl #[.int .u64 a0_0, .int .i64 1] (by rfl) rfl rfl (by (try simp only [List.map_toArray, List.map_cons, List.map_nil]); first | done | rfl | (simp only [List.length_drop, List.length_take]; rfl)) ?_; with_reducible refine (rillmeterref02_Row.calls aL a0_0 1 bG _ lR.out).mono ?_
       rintro e w' ⟨rfl, ⟨nd, rfl⟩⟩; (try replace aA := mk_ (blk_drewN aA.out nd)); (try replace HB := mk_ (pw_below_drewN HB.out nd)); refine ⟨_, rfl, ?_⟩; refine hK.out _ _ ⟨bc_ aA 0, bc_ aA 1, bc_ aA 2, bc_ aA 3, bc_ aA 4, bc_ aA 5, bc_ aA 6⟩ (fun hHeld => ?_); clear hK K; refine norm_ (a' := ?_) ?_ ?_; rotate_left
       ·show Act.put _ (some 52) _ = _
        simp only [Act.put, sa_, sb_, sc_, i64_w, i32_w]; rfl
       refine pq_ 17 53 19 262143 HT_ ?_
       refine pq_ 18 54 19 524287 HT_ ?_
       refine done_ (done_of HT_.out (by kernel_rfl)) ?_
       try go_wp2
       go_meet
       case rel => exact ⟨_, ((a0_4 != bG)), (by first | rfl | (simp; done) | (simp [*]; done)), H', ⟨by have := HJ1.out; first | omega | exact Nat.le_refl _⟩, ⟨bk_ aA⟩, ⟨bl_ HB⟩⟩
      ·rw [if_neg aY] at H; have bH : (a0_5 == 255) = false := beq_eq_false_iff_ne.mpr aY; have fA : (a0_5 != 255) = true := bne_iff_ne.mpr aY
       (first | rw [bH] | (simp only [i64_w, i32_w]; rw [bH]) | skip)
       have H' := mk_ H; clear H
       try go_wp2
       replace aA := bd_ aA; replace HB := mk_ (below_drew1 HB.out); refine start_ (n := 19) (S := fun w' => w'.cell? ⟨aD, 0, none⟩ = some (.int .u64 a0_0) ∧ w'.cell? ⟨aD, 1, none⟩ = some (.int .i64 a0_1) ∧ w'.cell? ⟨aD, 2, none⟩ = some (.int .i64 a0_2) ∧ w'.cell? ⟨aD, 3, none⟩ = some (.slice A0_3 l0_3.length c0_3) ∧ w'.cell? ⟨aD, 4, none⟩ = some (.int .u64 a0_4) ∧ w'.cell? ⟨aD, 5, none⟩ = some (.int .i64 a0_5) ∧ w'.cell? ⟨aD, 6, none⟩ = some (.slice A0_6 l0_6.length c0_6)) (ds := []) (mB 19 0) (by kernel_rfl) rfl rfl ⟨bc_ aA 0, bc_ aA 1, bc_ aA 2, bc_ aA 3, bc_ aA 4, bc_ aA 5, bc_ aA 6⟩ (fun hHeld => ?_); refine with_tabW rillmeterref15_Right.tab3 rillmeterref15_Right.bits3 (fun HT_ HW_ => ?_); generalize wc.drew = mK at aA HB hHeld ⊢; refine pq_ 0 36 19 1 HT_ ?_
       refine tq_ 1 37 19 3 HT_ HW_ hHeld ?_
       refine one_ (i := 2) (N := some 38) (mB 19 7) rfl rfl (one_of HT_.out (by kernel_rfl)) (by decide) (fun K hK => ?_); refine goes_ Try.func39 (by kernel_rfl) rfl #[.agg #[.int .u64 a0_4, .int .i64 a0_5, .slice A0_6 l0_6.length c0_6]] (by rfl) rfl rfl (by (try simp only [List.map_toArray, List.map_cons, List.map_nil]); first | done | rfl | (simp only [List.length_drop, List.length_take]; rfl)) ?_; with_reducible refine (rillmeterref11_Right.calls aL a0_4 a0_5 _ _ l0_6 true _ ?side1 ?side2 fP.out).mono ?_
       (case side1 => repeat (first | exact (Kd.C_below fN.out HB.out) | (with_reducible refine Kd.C_alloc ?_ _) | (with_reducible refine Kd.C_drewN ?_ _) | (with_reducible refine Kd.C_drew ?_))); (case side2 => exact fO.out); rintro e mL ⟨rfl, hb⟩; refine ⟨_, rfl, ?_⟩; replace aA := bb_ aA hb; replace HB := bs_ HB hb; (try clear hb); refine hK.out _ _ ⟨bc_ aA 0, bc_ aA 1, bc_ aA 2, bc_ aA 3, bc_ aA 4, bc_ aA 5, bc_ aA 6⟩ (fun hHeld => ?_); clear hK K; refine norm_ (a' := ?_) ?_ ?_; rotate_left
       ·show Act.put _ (some 38) _ = _
        simp only [Act.put, sa_, sb_, sc_, i64_w, i32_w]; rfl
       refine pq_ 3 39 19 15 HT_ ?_
       refine pq_ 4 40 19 31 HT_ ?_
       refine pq_ 5 41 19 63 HT_ ?_
       refine pq_ 6 42 19 127 HT_ ?_
       refine tq_ 7 43 19 255 HT_ HW_ hHeld ?_
       refine pq_ 8 44 19 511 HT_ ?_
       refine pq_ 9 45 19 1023 HT_ ?_
       refine pq_ 10 46 19 2047 HT_ ?_
       refine un_ [(11, 47), (12, 48), (13, 49), (14, 50), (15, 51), (16, 52), (17, 53)] (fuel := 1) (a' := ?_) (mB 19 262143) rfl HT_ (by kernel_rfl) (by kernel_rfl) (fun _ _ _ _ h => h) ?_ ?_; rotate_left
       ·simp only [unwA, Act.put, sa_, sb_, sc_, i64_w, i32_w]; rfl
       refine pq_ 18 54 19 524287 HT_ ?_
       refine done_ (done_of HT_.out (by kernel_rfl)) ?_
       try go_wp2
       go_meet
       case rel => exact ⟨_, (true), (by first | rfl | (simp; done) | (simp [*]; done)), H', ⟨by have := HJ1.out; first | omega | exact Nat.le_refl _⟩, ⟨bk_ aA⟩, ⟨bl_ HB⟩⟩
     ·replace bN := Bool.eq_false_iff.mpr bN; subst bN
      have H1 : (rillmeterref15_Right.j1 aL true a0_0 a0_1 a0_2 l0_3 a0_4 a0_5 l0_6) = some r := by rw [if_neg (show ¬ (false = true) by decide)] at H; exact H
      clear H; have H := H1; clear H1; have H' := mk_ H; clear H
      try go_wp2
      replace aA := bd_ aA; replace HB := mk_ (below_drew1 HB.out); refine start_ (n := 19) (S := fun w' => w'.cell? ⟨aD, 0, none⟩ = some (.int .u64 a0_0) ∧ w'.cell? ⟨aD, 1, none⟩ = some (.int .i64 a0_1) ∧ w'.cell? ⟨aD, 2, none⟩ = some (.int .i64 a0_2) ∧ w'.cell? ⟨aD, 3, none⟩ = some (.slice A0_3 l0_3.length c0_3) ∧ w'.cell? ⟨aD, 4, none⟩ = some (.int .u64 a0_4) ∧ w'.cell? ⟨aD, 5, none⟩ = some (.int .i64 a0_5) ∧ w'.cell? ⟨aD, 6, none⟩ = some (.slice A0_6 l0_6.length c0_6)) (ds := []) (mB 19 0) (by kernel_rfl) rfl rfl ⟨bc_ aA 0, bc_ aA 1, bc_ aA 2, bc_ aA 3, bc_ aA 4, bc_ aA 5, bc_ aA 6⟩ (fun hHeld => ?_); refine with_tabW rillmeterref15_Right.tab3 rillmeterref15_Right.bits3 (fun HT_ HW_ => ?_); generalize wc.drew = mM at aA HB hHeld ⊢; refine pq_ 0 36 19 1 HT_ ?_
      refine tq_ 1 37 19 3 HT_ HW_ hHeld ?_
      refine one_ (i := 2) (N := some 38) (mB 19 7) rfl rfl (one_of HT_.out (by kernel_rfl)) (by decide) (fun K hK => ?_); refine goes_ Try.func39 (by kernel_rfl) rfl #[.agg #[.int .u64 a0_4, .int .i64 a0_5, .slice A0_6 l0_6.length c0_6]] (by rfl) rfl rfl (by (try simp only [List.map_toArray, List.map_cons, List.map_nil]); first | done | rfl | (simp only [List.length_drop, List.length_take]; rfl)) ?_; with_reducible refine (rillmeterref11_Right.calls aL a0_4 a0_5 _ _ l0_6 false _ ?side1 ?side2 fP.out).mono ?_
      (case side1 => repeat (first | exact (Kd.C_below fN.out HB.out) | (with_reducible refine Kd.C_alloc ?_ _) | (with_reducible refine Kd.C_drewN ?_ _) | (with_reducible refine Kd.C_drew ?_))); (case side2 => exact fO.out); rintro e mN ⟨rfl, hb⟩; refine ⟨_, rfl, ?_⟩; replace aA := bb_ aA hb; replace HB := bs_ HB hb; (try clear hb); refine hK.out _ _ ⟨bc_ aA 0, bc_ aA 1, bc_ aA 2, bc_ aA 3, bc_ aA 4, bc_ aA 5, bc_ aA 6⟩ (fun hHeld => ?_); clear hK K; refine norm_ (a' := ?_) ?_ ?_; rotate_left
      ·show Act.put _ (some 38) _ = _
       simp only [Act.put, sa_, sb_, sc_, i64_w, i32_w]; rfl
      refine pq_ 3 39 19 15 HT_ ?_
      refine pq_ 4 40 19 31 HT_ ?_
      refine un_ [(5, 41), (6, 42), (7, 43), (8, 44)] (fuel := 10) (a' := ?_) (mB 19 511) rfl HT_ (by kernel_rfl) (by kernel_rfl) (fun _ _ _ _ h => h) ?_ ?_; rotate_left
      ·simp only [unwA, Act.put, sa_, sb_, sc_, i64_w, i32_w]; rfl
      refine pq_ 9 45 19 1023 HT_ ?_
      refine pq_ 10 46 19 2047 HT_ ?_
      refine un_ [(11, 47), (12, 48), (13, 49), (14, 50), (15, 51), (16, 52), (17, 53)] (fuel := 1) (a' := ?_) (mB 19 262143) rfl HT_ (by kernel_rfl) (by kernel_rfl) (fun _ _ _ _ h => h) ?_ ?_; rotate_left
      ·simp only [unwA, Act.put, sa_, sb_, sc_, i64_w, i32_w]; rfl
      refine pq_ 18 54 19 524287 HT_ ?_
      refine done_ (done_of HT_.out (by kernel_rfl)) ?_
      try go_wp2
      go_meet
      case rel => exact ⟨_, (true), (by first | rfl | (simp; done) | (simp [*]; done)), H', ⟨by have := HJ1.out; first | omega | exact Nat.le_refl _⟩, ⟨bk_ aA⟩, ⟨bl_ HB⟩⟩
    case rest =>
     clear HC16; (try clear c1); (try clear p2); (try clear c3); (try clear c4); (try clear bM); (try clear bN); (try clear aY); (try clear bH); (try clear fA); (try clear cR); (try clear cS); (try clear cT); (try clear cU); (try clear cV); (try clear cW); (try clear cX); (try clear dF); (try clear dG); (try clear dH); (try clear dI); (try clear dJ); (try clear dK); (try clear dL); (try clear dM); (try clear dN); (try clear dO); (try clear dP); (try clear dQ); (try clear dR); (try clear dS); (try clear dT); (try clear dU); (try clear dV); (try clear dW); (try clear dX); (try clear dY); (try clear dZ); (try clear cD); (try clear cE); (try clear cF); (try clear cG); (try clear cH); (try clear cI); (try clear cJ); (try clear cK); (try clear cL); (try clear cM); (try clear cN); (try clear cO); (try clear cP); (try clear cQ); (try clear cY); (try clear cZ); (try clear dA); (try clear dB); (try clear dC); (try clear dD); (try clear dE); obtain ⟨kq, fK, rfl, HA, HJ15, aA, HB⟩ := hcut
     cases kq with
     | zero => exact absurd HA.out (by simp [rillmeterref15_Right.j1])
     | succ fQ =>
      have H := HA.out; clear HA; simp only [rillmeterref15_Right.j1] at H
      by_cases bT : fK = true
      ·subst bT
       have H1 : (some false) = some r := by rw [if_pos rfl] at H; exact H
       clear H; have H := H1; clear H1; obtain rfl := Option.some.inj H
       go_wp2
       go_ret; exact ⟨by first | rfl | (simp [errW_none, errW_some] <;> rfl) | (simp [*, errW_none, errW_some] <;> rfl), bl_ HB⟩
      ·replace bT := Bool.eq_false_iff.mpr bT; subst bT
       have H1 : (rillmeterref15_Right.l0 fQ 0 a0_0 a0_1 a0_2 l0_3 a0_4 a0_5 l0_6) = some r := by rw [if_neg (show ¬ (false = true) by decide)] at H; exact H
       clear H; have H := H1; clear H1; have H' := mk_ H; clear H
       go_wp2
       go_loopg [3] fQ (fun kq v3 w' => ∃ (aC : Int), v3 = .int .i64 aC ∧ Aside0 (rillmeterref15_Right.l0 kq aC a0_0 a0_1 a0_2 l0_3 a0_4 a0_5 l0_6 = some r) ∧ Aside0 (kq ≤ fQ) ∧ Aside0 (w'.heap[aD]? = some (.cells #[.int .u64 a0_0, .int .i64 a0_1, .int .i64 a0_2, (.slice A0_3 l0_3.length c0_3), .int .u64 a0_4, .int .i64 a0_5, (.slice A0_6 l0_6.length c0_6)] 32 (0, 0))) ∧ Aside0 (Below w.heap.size w w'))
       case atStart => exact ⟨(0), (by first | rfl | (simp; done) | (simp [*]; done)), H', ⟨Nat.le_refl _⟩, ⟨bk_ aA⟩, ⟨bl_ HB⟩⟩
       case round =>
        clear H'; (try clear c1); (try clear c2); (try clear p2); (try clear c3); (try clear c4); (try clear bM); (try clear bN); (try clear aY); (try clear bH); (try clear fA); (try clear bT); (try clear cR); (try clear cS); (try clear cT); (try clear cU); (try clear cV); (try clear cW); (try clear cX); (try clear dF); (try clear dG); (try clear dH); (try clear dI); (try clear dJ); (try clear dK); (try clear dL); (try clear dM); (try clear dN); (try clear dO); (try clear dP); (try clear dQ); (try clear dR); (try clear dS); (try clear dT); (try clear dU); (try clear dV); (try clear dW); (try clear dX); (try clear dY); (try clear dZ); (try clear cD); (try clear cE); (try clear cF); (try clear cG); (try clear cH); (try clear cI); (try clear cJ); (try clear cK); (try clear cL); (try clear cM); (try clear cN); (try clear cO); (try clear cP); (try clear cQ); (try clear cY); (try clear cZ); (try clear dA); (try clear dB); (try clear dC); (try clear dD); (try clear dE); (try clear p2); obtain ⟨aC, rfl, HA, HK3, aA, HB⟩ := hrel
        cases gk with
        | zero => exact absurd HA.out (by simp [rillmeterref15_Right.l0])
        | succ k3 =>
         have H := HA.out; clear HA; simp only [rillmeterref15_Right.l0] at H
         by_cases bO : aC < (l0_3.length : Int)
         ·rw [if_pos bO] at H; have fR : decide (aC < (l0_3.length : Int)) = true := decide_eq_true bO; clear bO
          by_cases bZ : 0 ≤ aC
          ·rw [if_pos bZ] at H; have gC : decide (0 ≤ aC) = true := decide_eq_true bZ; clear bZ; have HC30 := mk_ H; clear H; obtain ⟨gD, gE, gF, gG, gH, gI, gJ⟩ := cz7_ aA; obtain ⟨gK, gL, gM, gN, gO, gP, gQ⟩ := fz7_ aA; have fB : 0 ≤ (aC : Int) := of_decide_eq_true (by first | (with_reducible assumption) | assumption); have fC : aC < (l0_3.length : Int) := of_decide_eq_true (by first | (with_reducible assumption) | assumption); obtain ⟨fD, A373_0, c373_0, e373, fE, fF, gR, hi373_0⟩ := at_T74 jE.out aC fB fC
           cases e373; (try replace fE := bt_ HB fE); (try replace fF := bt_ HB fF); have aZ := mk_ hi373_0; have gS := mk_ gR; clear hi373_0 gR; replace fB := eq_true fB; replace fC := eq_true fC
           go_upto_region 9 with (first | ((with_reducible refine gate_dst (N := 4) rfl ?_); (try (refine gate_guard (by rfl) ?_; dsimp only)); refine box_event ?hg (N := 4) ?hd (cs := #[.slice none 0 0, .int .i64 0]) (t := 74) ?hr ?_; (case hd => rfl); (case hg => rfl); (case hr => first | (go_simp; done) | (go_simp; rfl)); intro aH hg aG hbox hb; have n0_ := bb_ aA hb; have n1_ := bs_ HB hb; have n2_ := mk_ (hbox); have n3_ := gx_ hg HB; have n4_ := gx_ hg HB; have n5_ := nx_ hg aA; have n6_ := ny_ hg aA; clear aA; clear HB; have aA := n0_; have HB := n1_; have aE := n2_; have mO := n3_; have mP := n4_; have aP := n5_; have bI := n6_; clear n0_ n1_ n2_ n3_ n4_ n5_ n6_; clear hb hbox hg; have mQ := bI.out; have mR := aP.out; obtain ⟨gT, gU⟩ := cz2_ aE; obtain ⟨gV, gW⟩ := fz2_ aE))
           (try simp only [Act.put, sa_, sb_, sc_])
           go_cut [82] (fun lS wc => ∃ (kq : Nat) (fL : Bool), lS = .bool fL ∧ Aside0 (rillmeterref15_Right.j3 kq aC fL a0_0 a0_1 a0_2 l0_3 a0_4 a0_5 l0_6 ((rd_T74 l0_3 aC).f0) ((rd_T74 l0_3 aC).f1) = some r) ∧ Aside0 (kq ≤ k3) ∧ Aside0 (wc.heap[aD]? = some (.cells #[.int .u64 a0_0, .int .i64 a0_1, .int .i64 a0_2, (.slice (some fD) l0_3.length c0_3), .int .u64 a0_4, .int .i64 a0_5, (.slice A0_6 l0_6.length c0_6)] 32 (0, 0))) ∧ Aside0 (wc.heap[aH]? = some (.cells #[(.slice A373_0 ((rd_T74 l0_3 aC).f0).length c373_0), .int .i64 ((rd_T74 l0_3 aC).f1)] 74 (0, 0))) ∧ Aside0 (Below w.heap.size w wc))
           case first =>
            have H := HC30.out; clear HC30
            by_cases bP : (((rd_T74 l0_3 aC).f0).length : Int) > a0_1
            ·rw [if_pos bP] at H; have bU : decide (a0_1 < (((rd_T74 l0_3 aC).f0).length : Int)) = true := decide_eq_true bP; clear bP
             (first | rw [bU] | (simp only [i64_w, i32_w]; rw [bU]) | skip)
             have H' := mk_ H; clear H; have mS := bI.out; have mT := aP.out; obtain ⟨gX, gY⟩ := cz2_ aE; obtain ⟨gZ, hA⟩ := fz2_ aE; obtain ⟨hB, hC, hD, hE, hF, hG, hH⟩ := cz7_ aA; obtain ⟨hI, hJ, hL, hM, hN, hO, hP⟩ := fz7_ aA
             go_wp2
             go_meet
             case rel => exact ⟨_, (true), (by first | rfl | (simp; done) | (simp [*]; done)), H', ⟨by have := HJ1.out; have := HJ15.out; have := HK3.out; first | omega | exact Nat.le_refl _⟩, ⟨fb_⟩, ⟨by (with_reducible repeat (first | refine blk_drewN ?_ _ | refine blk_drew ?_ | refine blk_alloc ?_ _)); refine blk_put (cs := #[.slice A373_0 ((rd_T74 l0_3 aC).f0).length c373_0, .int .i64 0]) ?_ 1 _ rfl; (with_reducible repeat (first | refine blk_drewN ?_ _ | refine blk_drew ?_ | refine blk_alloc ?_ _)); refine blk_put (cs := #[.slice none 0 0, .int .i64 0]) ?_ 0 _ rfl; (with_reducible repeat (first | refine blk_drewN ?_ _ | refine blk_drew ?_ | refine blk_alloc ?_ _)); exact aE.out⟩, ⟨bl_ HB⟩⟩
            ·rw [if_neg bP] at H; have bU : decide (a0_1 < (((rd_T74 l0_3 aC).f0).length : Int)) = false := decide_eq_false bP; clear bP
             (first | rw [bU] | (simp only [i64_w, i32_w]; rw [bU]) | skip)
             by_cases bQ : ((rd_T74 l0_3 aC).f1) < 0
             ·rw [if_pos bQ] at H; have fS : decide (((rd_T74 l0_3 aC).f1) < 0) = true := decide_eq_true bQ; clear bQ; have H' := mk_ H; clear H; have mU := bI.out; have mV := aP.out; obtain ⟨hQ, hR⟩ := cz2_ aE; obtain ⟨hS, hT⟩ := fz2_ aE; obtain ⟨hU, hV, hW, hX, hY, hZ, iA⟩ := cz7_ aA; have iB := blk_frozen aA.out 0; have iC := blk_frozen aA.out 1; have iD := blk_frozen aA.out 2; have iE := blk_frozen aA.out 3; have iF := blk_frozen aA.out 4
              have iG := blk_frozen aA.out 5; have iH := blk_frozen aA.out 6
              go_wp2
              go_meet
              case rel => exact ⟨_, (true), (by first | rfl | (simp; done) | (simp [*]; done)), H', ⟨by have := HJ1.out; have := HJ15.out; have := HK3.out; first | omega | exact Nat.le_refl _⟩, ⟨fb_⟩, ⟨by (with_reducible repeat (first | refine blk_drewN ?_ _ | refine blk_drew ?_ | refine blk_alloc ?_ _)); refine blk_put (cs := #[.slice A373_0 ((rd_T74 l0_3 aC).f0).length c373_0, .int .i64 0]) ?_ 1 _ rfl; (with_reducible repeat (first | refine blk_drewN ?_ _ | refine blk_drew ?_ | refine blk_alloc ?_ _)); refine blk_put (cs := #[.slice none 0 0, .int .i64 0]) ?_ 0 _ rfl; (with_reducible repeat (first | refine blk_drewN ?_ _ | refine blk_drew ?_ | refine blk_alloc ?_ _)); exact aE.out⟩, ⟨bl_ HB⟩⟩
             ·rw [if_neg bQ] at H; have fS : decide (((rd_T74 l0_3 aC).f1) < 0) = false := decide_eq_false bQ; clear bQ; have H' := mk_ H; clear H; have mW := bI.out; have mX := aP.out; obtain ⟨iI, iJ⟩ := cz2_ aE; obtain ⟨iK, iL⟩ := fz2_ aE; obtain ⟨iM, iN, iO, iP, iQ, iR, iS⟩ := cz7_ aA; have iT := blk_frozen aA.out 0; have iU := blk_frozen aA.out 1; have iV := blk_frozen aA.out 2; have iW := blk_frozen aA.out 3; have iX := blk_frozen aA.out 4
              have iY := blk_frozen aA.out 5; have iZ := blk_frozen aA.out 6
              go_wp2
              go_meet
              case rel => exact ⟨_, (decide (((rd_T74 l0_3 aC).f1) > 1099511627776)), (by first | rfl | (simp; done) | (simp [*]; done)), H', ⟨by have := HJ1.out; have := HJ15.out; have := HK3.out; first | omega | exact Nat.le_refl _⟩, ⟨fb_⟩, ⟨by (with_reducible repeat (first | refine blk_drewN ?_ _ | refine blk_drew ?_ | refine blk_alloc ?_ _)); refine blk_put (cs := #[.slice A373_0 ((rd_T74 l0_3 aC).f0).length c373_0, .int .i64 0]) ?_ 1 _ rfl; (with_reducible repeat (first | refine blk_drewN ?_ _ | refine blk_drew ?_ | refine blk_alloc ?_ _)); refine blk_put (cs := #[.slice none 0 0, .int .i64 0]) ?_ 0 _ rfl; (with_reducible repeat (first | refine blk_drewN ?_ _ | refine blk_drew ?_ | refine blk_alloc ?_ _)); exact aE.out⟩, ⟨bl_ HB⟩⟩
           case rest =>
            clear HC30; (try clear c1); (try clear c2); (try clear p2); (try clear c3); (try clear p3); (try clear q3); (try clear hx3); (try clear c4); (try clear bM); (try clear bN); (try clear aY); (try clear bH); (try clear fA); (try clear bT); (try clear bO); (try clear fR); (try clear bZ); (try clear gC); (try clear lT); (try clear bP); (try clear bU); (try clear lU); (try clear lV); (try clear jA); (try clear jB); (try clear hx37); (try clear bQ); (try clear fS); (try clear lW); (try clear lX); (try clear gD); (try clear gE); (try clear gF); (try clear gG); (try clear gH); (try clear gI); (try clear gJ); (try clear gT); (try clear gU); (try clear gX); (try clear gY); (try clear hB); (try clear hC); (try clear hD); (try clear hE); (try clear hF); (try clear hG); (try clear hH); (try clear hQ); (try clear hR); (try clear hU); (try clear hV); (try clear hW); (try clear hX); (try clear hY); (try clear hZ); (try clear iA); (try clear iI); (try clear iJ); (try clear iM); (try clear iN); (try clear iO); (try clear iP); (try clear iQ); (try clear iR); (try clear iS); (try clear cR); (try clear cS); (try clear cT); (try clear cU); (try clear cV); (try clear cW); (try clear cX); (try clear dF); (try clear dG)
            (try clear dH); (try clear dI); (try clear dJ); (try clear dK); (try clear dL); (try clear dM); (try clear dN); (try clear dO); (try clear dP); (try clear dQ); (try clear dR); (try clear dS); (try clear dT); (try clear dU); (try clear dV); (try clear dW); (try clear dX); (try clear dY); (try clear dZ); (try clear gK); (try clear gL); (try clear gM); (try clear gN); (try clear gO); (try clear gP); (try clear gQ); (try clear gV); (try clear gW); (try clear gZ); (try clear hA); (try clear hI); (try clear hJ); (try clear hL); (try clear hM); (try clear hN); (try clear hO); (try clear hP); (try clear hS); (try clear hT); (try clear iB); (try clear iC); (try clear iD); (try clear iE); (try clear iF); (try clear iG); (try clear iH); (try clear iK); (try clear iL); (try clear iT); (try clear iU); (try clear iV); (try clear iW); (try clear iX); (try clear iY); (try clear iZ); (try clear cD); (try clear cE); (try clear cF); (try clear cG); (try clear cH); (try clear cI); (try clear cJ); (try clear cK); (try clear cL); (try clear cM); (try clear cN); (try clear cO); (try clear cP); (try clear cQ); (try clear cY); (try clear cZ)
            (try clear dA); (try clear dB); (try clear dC); (try clear dD); (try clear dE); (try clear fE); (try clear fF); (try clear p2); (try clear fB); (try clear fC); obtain ⟨kq, fL, rfl, HA, HJ29, aA, aE, HB⟩ := hcut
            cases kq with
            | zero => exact absurd HA.out (by simp [rillmeterref15_Right.j3])
            | succ fT =>
             have H := HA.out; clear HA; simp only [rillmeterref15_Right.j3] at H
             by_cases fG : fL = true
             ·subst fG
              have H1 : (some false) = some r := by rw [if_pos rfl] at H; exact H
              clear H; have H := H1; clear H1; obtain rfl := Option.some.inj H
              go_wp2
              go_ret; exact ⟨by first | rfl | (simp [errW_none, errW_some] <;> rfl) | (simp [*, errW_none, errW_some] <;> rfl), bl_ HB⟩
             ·replace fG := Bool.eq_false_iff.mpr fG; subst fG
              have H1 : (rillmeterref15_Right.l1 fT aC 0 a0_0 a0_1 a0_2 l0_3 a0_4 a0_5 l0_6 ((rd_T74 l0_3 aC).f0) ((rd_T74 l0_3 aC).f1)) = some r := by rw [if_neg (show ¬ (false = true) by decide)] at H; exact H
              clear H; have H := H1; clear H1; have H' := mk_ H; clear H
              go_wp2
              go_loopg [5] fT (fun kq v5 w' => ∃ (aB : Int), v5 = .int .i64 aB ∧ Aside0 (rillmeterref15_Right.l1 kq aC aB a0_0 a0_1 a0_2 l0_3 a0_4 a0_5 l0_6 ((rd_T74 l0_3 aC).f0) ((rd_T74 l0_3 aC).f1) = some r) ∧ Aside0 (kq ≤ fT) ∧ Aside0 (w'.heap[aD]? = some (.cells #[.int .u64 a0_0, .int .i64 a0_1, .int .i64 a0_2, (.slice (some fD) l0_3.length c0_3), .int .u64 a0_4, .int .i64 a0_5, (.slice A0_6 l0_6.length c0_6)] 32 (0, 0))) ∧ Aside0 (w'.heap[aH]? = some (.cells #[(.slice A373_0 ((rd_T74 l0_3 aC).f0).length c373_0), .int .i64 ((rd_T74 l0_3 aC).f1)] 74 (0, 0))) ∧ Aside0 (Below w.heap.size w w'))
              case atStart => exact ⟨(0), (by first | rfl | (simp; done) | (simp [*]; done)), H', ⟨Nat.le_refl _⟩, ⟨bk_ aA⟩, ⟨bk_ aE⟩, ⟨bl_ HB⟩⟩
              case round =>
               clear H'; (try clear c1); (try clear c2); (try clear p2); (try clear c3); (try clear p3); (try clear q3); (try clear hx3); (try clear c4); (try clear bM); (try clear bN); (try clear aY); (try clear bH); (try clear fA); (try clear bT); (try clear bO); (try clear fR); (try clear bZ); (try clear gC); (try clear lT); (try clear bP); (try clear bU); (try clear lU); (try clear lV); (try clear jA); (try clear jB); (try clear hx37); (try clear bQ); (try clear fS); (try clear lW); (try clear lX); (try clear fG); (try clear gD); (try clear gE); (try clear gF); (try clear gG); (try clear gH); (try clear gI); (try clear gJ); (try clear gT); (try clear gU); (try clear gX); (try clear gY); (try clear hB); (try clear hC); (try clear hD); (try clear hE); (try clear hF); (try clear hG); (try clear hH); (try clear hQ); (try clear hR); (try clear hU); (try clear hV); (try clear hW); (try clear hX); (try clear hY); (try clear hZ); (try clear iA); (try clear iI); (try clear iJ); (try clear iM); (try clear iN); (try clear iO); (try clear iP); (try clear iQ); (try clear iR); (try clear iS); (try clear cR); (try clear cS); (try clear cT); (try clear cU); (try clear cV); (try clear cW); (try clear cX); (try clear dF)
               (try clear dG); (try clear dH); (try clear dI); (try clear dJ); (try clear dK); (try clear dL); (try clear dM); (try clear dN); (try clear dO); (try clear dP); (try clear dQ); (try clear dR); (try clear dS); (try clear dT); (try clear dU); (try clear dV); (try clear dW); (try clear dX); (try clear dY); (try clear dZ); (try clear gK); (try clear gL); (try clear gM); (try clear gN); (try clear gO); (try clear gP); (try clear gQ); (try clear gV); (try clear gW); (try clear gZ); (try clear hA); (try clear hI); (try clear hJ); (try clear hL); (try clear hM); (try clear hN); (try clear hO); (try clear hP); (try clear hS); (try clear hT); (try clear iB); (try clear iC); (try clear iD); (try clear iE); (try clear iF); (try clear iG); (try clear iH); (try clear iK); (try clear iL); (try clear iT); (try clear iU); (try clear iV); (try clear iW); (try clear iX); (try clear iY); (try clear iZ); (try clear cD); (try clear cE); (try clear cF); (try clear cG); (try clear cH); (try clear cI); (try clear cJ); (try clear cK); (try clear cL); (try clear cM); (try clear cN); (try clear cO); (try clear cP); (try clear cQ)
               (try clear cY); (try clear cZ); (try clear dA); (try clear dB); (try clear dC); (try clear dD); (try clear dE); (try clear fE); (try clear fF); (try clear p2); (try clear p3); (try clear jA); (try clear fB); (try clear q3); (try clear jB); (try clear fC); obtain ⟨aB, rfl, HA, HK5, aA, aE, HB⟩ := hrel
               cases gk with
               | zero => exact absurd HA.out (by simp [rillmeterref15_Right.l1])
               | succ k5 =>
                have H := HA.out; clear HA; simp only [rillmeterref15_Right.l1] at H
                by_cases cA : aB < (((rd_T74 l0_3 aC).f0).length : Int)
                ·rw [if_pos cA] at H; have lY : decide (aB < (((rd_T74 l0_3 aC).f0).length : Int)) = true := decide_eq_true cA; clear cA
                 by_cases fM : 0 ≤ aB
                 ·rw [if_pos fM] at H; have mY : decide (0 ≤ aB) = true := decide_eq_true fM; clear fM
                  by_cases cB : ((rd_T77 ((rd_T74 l0_3 aC).f0) aB).f1) < 1
                  ·rw [if_pos cB] at H; have lZ : decide (((rd_T77 ((rd_T74 l0_3 aC).f0) aB).f1) < 1) = true := decide_eq_true cB; clear cB; obtain rfl := Option.some.inj H; have mZ := bI.out; have nA := aP.out; obtain ⟨nB, nC⟩ := cz2_ aE; obtain ⟨nD, nE⟩ := fz2_ aE
                   try go_wp2
                   replace aA := bd_ aA; replace aE := bd_ aE; replace HB := mk_ (below_drew1 HB.out); have aQ : 0 ≤ (aB : Int) := of_decide_eq_true (by first | (with_reducible assumption) | assumption); have aR : aB < (((rd_T74 l0_3 aC).f0).length : Int) := of_decide_eq_true (by first | (with_reducible assumption) | assumption); obtain ⟨aF, e375, aI, aJ, aK⟩ := at_T77 aZ.out aB aQ aR; have aS := aK; have aT := aJ; have aU := aI
                   cases e375; (try replace aI := bt_ HB aI); (try replace aJ := bt_ HB aJ); (try replace aK := bt_ HB aK); replace aQ := eq_true aQ; replace aR := eq_true aR; refine start_ (n := 28) (S := fun w' => w'.cell? ⟨aH, 0, none⟩ = some (.slice (some aF) ((rd_T74 l0_3 aC).f0).length c373_0) ∧ w'.cell? ⟨aH, 1, none⟩ = some (.int .i64 ((rd_T74 l0_3 aC).f1)) ∧ w'.cell? (aF.add ((aB).toNat * 3)) = some (.string ((rd_T77 ((rd_T74 l0_3 aC).f0) aB).f0)) ∧ w'.cell? ⟨(aF.add ((aB).toNat * 3)).block, (aF.add ((aB).toNat * 3)).off + 1, none⟩ = some (.int .i64 ((rd_T77 ((rd_T74 l0_3 aC).f0) aB).f1)) ∧ w'.cell? ⟨(aF.add ((aB).toNat * 3)).block, (aF.add ((aB).toNat * 3)).off + 2, none⟩ = some (.bool ((rd_T77 ((rd_T74 l0_3 aC).f0) aB).f2))) (ds := []) (mB 28 0) (by kernel_rfl) rfl rfl ⟨bc_ aE 0, bc_ aE 1, ((HB.out.cell (World.block_lt_of_cell? w _ aU)).trans aU), ((HB.out.cell (World.block_lt_of_cell? w _ aT)).trans aT), ((HB.out.cell (World.block_lt_of_cell? w _ aS)).trans aS)⟩ (fun hHeld => ?_); refine with_tabW rillmeterref15_Right.tab14 rillmeterref15_Right.bits14 (fun HT_ HW_ => ?_)
                   generalize wr.drew = nF at aA aE HB aI aJ aK hHeld ⊢; refine pq_ 0 90 28 1 HT_ ?_
                   refine pq_ 2 92 28 5 HT_ ?_
                   refine tq_ 1 91 28 7 HT_ HW_ hHeld ?_
                   refine pq_ 3 93 28 15 HT_ ?_
                   refine pq_ 4 94 28 31 HT_ ?_
                   refine tq_ 5 95 28 63 HT_ HW_ hHeld ?_
                   refine pq_ 6 96 28 127 HT_ ?_
                   refine pq_ 7 97 28 255 HT_ ?_
                   refine un_ [(8, 98), (9, 99), (10, 100), (11, 101), (12, 102), (13, 103), (14, 104)] (fuel := 13) (a' := ?_) (mB 28 32767) rfl HT_ (by kernel_rfl) (by kernel_rfl) (fun _ _ _ _ h => h) ?_ ?_; rotate_left
                   ·simp only [unwA, Act.put, sa_, sb_, sc_, i64_w, i32_w]; rfl
                   refine pq_ 15 105 28 65535 HT_ ?_
                   refine pq_ 16 106 28 131071 HT_ ?_
                   refine un_ [(17, 107), (18, 108), (19, 109), (20, 110), (21, 111), (22, 112), (23, 113), (24, 114), (25, 115), (26, 116)] (fuel := 1) (a' := ?_) (mB 28 134217727) rfl HT_ (by kernel_rfl) (by kernel_rfl) (fun _ _ _ _ h => h) ?_ ?_; rotate_left
                   ·simp only [unwA, Act.put, sa_, sb_, sc_, i64_w, i32_w]; rfl
                   refine pq_ 27 117 28 268435455 HT_ ?_
                   refine done_ (done_of HT_.out (by kernel_rfl)) ?_
                   try go_wp2
                   go_ret; exact ⟨by first | rfl | (simp [errW_none, errW_some] <;> rfl) | (simp [*, errW_none, errW_some] <;> rfl), bl_ HB⟩
                  ·rw [if_neg cB] at H; have lZ : decide (((rd_T77 ((rd_T74 l0_3 aC).f0) aB).f1) < 1) = false := decide_eq_false cB; clear cB
                   by_cases cC : ((rd_T77 ((rd_T74 l0_3 aC).f0) aB).f1) > 1099511627776
                   ·rw [if_pos cC] at H; have mA : decide (1099511627776 < ((rd_T77 ((rd_T74 l0_3 aC).f0) aB).f1)) = true := decide_eq_true cC; clear cC; obtain rfl := Option.some.inj H; have nG := bI.out; have nH := aP.out; obtain ⟨nI, nJ⟩ := cz2_ aE; obtain ⟨nK, nL⟩ := fz2_ aE
                    try go_wp2
                    replace aA := bd_ aA; replace aE := bd_ aE; replace HB := mk_ (below_drew1 HB.out); have aQ : 0 ≤ (aB : Int) := of_decide_eq_true (by first | (with_reducible assumption) | assumption); have aR : aB < (((rd_T74 l0_3 aC).f0).length : Int) := of_decide_eq_true (by first | (with_reducible assumption) | assumption); obtain ⟨aF, e375, aI, aJ, aK⟩ := at_T77 aZ.out aB aQ aR; have aS := aK; have aT := aJ; have aU := aI
                    cases e375; (try replace aI := bt_ HB aI); (try replace aJ := bt_ HB aJ); (try replace aK := bt_ HB aK); replace aQ := eq_true aQ; replace aR := eq_true aR; have bA : 0 ≤ (aB : Int) := of_decide_eq_true (by first | (with_reducible assumption) | assumption); have bB : aB < (((rd_T74 l0_3 aC).f0).length : Int) := of_decide_eq_true (by first | (with_reducible assumption) | assumption); obtain ⟨fH, e376, aM, aN, aO⟩ := at_T77 aZ.out aB bA bB; have aV := aO; have aW := aN; have aX := aM; obtain rfl : aF = fH := (by injection e376); (try replace aM := bt_ HB aM); (try replace aN := bt_ HB aN); (try replace aO := bt_ HB aO); replace bA := eq_true bA; replace bB := eq_true bB
                    refine start_ (n := 28) (S := fun w' => w'.cell? ⟨aH, 0, none⟩ = some (.slice (some aF) ((rd_T74 l0_3 aC).f0).length c373_0) ∧ w'.cell? ⟨aH, 1, none⟩ = some (.int .i64 ((rd_T74 l0_3 aC).f1)) ∧ w'.cell? (aF.add ((aB).toNat * 3)) = some (.string ((rd_T77 ((rd_T74 l0_3 aC).f0) aB).f0)) ∧ w'.cell? ⟨(aF.add ((aB).toNat * 3)).block, (aF.add ((aB).toNat * 3)).off + 1, none⟩ = some (.int .i64 ((rd_T77 ((rd_T74 l0_3 aC).f0) aB).f1)) ∧ w'.cell? ⟨(aF.add ((aB).toNat * 3)).block, (aF.add ((aB).toNat * 3)).off + 2, none⟩ = some (.bool ((rd_T77 ((rd_T74 l0_3 aC).f0) aB).f2)) ∧ w'.cell? (aF.add ((aB).toNat * 3)) = some (.string ((rd_T77 ((rd_T74 l0_3 aC).f0) aB).f0)) ∧ w'.cell? ⟨(aF.add ((aB).toNat * 3)).block, (aF.add ((aB).toNat * 3)).off + 1, none⟩ = some (.int .i64 ((rd_T77 ((rd_T74 l0_3 aC).f0) aB).f1)) ∧ w'.cell? ⟨(aF.add ((aB).toNat * 3)).block, (aF.add ((aB).toNat * 3)).off + 2, none⟩ = some (.bool ((rd_T77 ((rd_T74 l0_3 aC).f0) aB).f2))) (ds := []) (mB 28 0) (by kernel_rfl) rfl rfl ⟨bc_ aE 0, bc_ aE 1, ((HB.out.cell (World.block_lt_of_cell? w _ aU)).trans aU), ((HB.out.cell (World.block_lt_of_cell? w _ aT)).trans aT), ((HB.out.cell (World.block_lt_of_cell? w _ aS)).trans aS), ((HB.out.cell (World.block_lt_of_cell? w _ aX)).trans aX), ((HB.out.cell (World.block_lt_of_cell? w _ aW)).trans aW), ((HB.out.cell (World.block_lt_of_cell? w _ aV)).trans aV)⟩ (fun hHeld => ?_); refine with_tabW rillmeterref15_Right.tab14 rillmeterref15_Right.bits14 (fun HT_ HW_ => ?_)
                    generalize wr.drew = nM at aA aE HB aI aJ aK aM aN aO hHeld ⊢; refine pq_ 0 90 28 1 HT_ ?_
                    refine pq_ 2 92 28 5 HT_ ?_
                    refine tq_ 1 91 28 7 HT_ HW_ hHeld ?_
                    refine pq_ 3 93 28 15 HT_ ?_
                    refine pq_ 4 94 28 31 HT_ ?_
                    refine tq_ 5 95 28 63 HT_ HW_ hHeld ?_
                    refine pq_ 6 96 28 127 HT_ ?_
                    refine pq_ 7 97 28 255 HT_ ?_
                    refine pq_ 8 98 28 511 HT_ ?_
                    refine pq_ 10 100 28 1535 HT_ ?_
                    refine tq_ 9 99 28 2047 HT_ HW_ hHeld ?_
                    refine pq_ 11 101 28 4095 HT_ ?_
                    refine pq_ 12 102 28 8191 HT_ ?_
                    refine tq_ 13 103 28 16383 HT_ HW_ hHeld ?_
                    refine pq_ 14 104 28 32767 HT_ ?_
                    refine pq_ 15 105 28 65535 HT_ ?_
                    refine pq_ 16 106 28 131071 HT_ ?_
                    refine un_ [(17, 107), (18, 108), (19, 109), (20, 110), (21, 111), (22, 112), (23, 113), (24, 114), (25, 115), (26, 116)] (fuel := 1) (a' := ?_) (mB 28 134217727) rfl HT_ (by kernel_rfl) (by kernel_rfl) (fun _ _ _ _ h => h) ?_ ?_; rotate_left
                    ·simp only [unwA, Act.put, sa_, sb_, sc_, i64_w, i32_w]; rfl
                    refine pq_ 27 117 28 268435455 HT_ ?_
                    refine done_ (done_of HT_.out (by kernel_rfl)) ?_
                    try go_wp2
                    go_ret; exact ⟨by first | rfl | (simp [errW_none, errW_some] <;> rfl) | (simp [*, errW_none, errW_some] <;> rfl), bl_ HB⟩
                   ·rw [if_neg cC] at H; have mA : decide (1099511627776 < ((rd_T77 ((rd_T74 l0_3 aC).f0) aB).f1)) = false := decide_eq_false cC; clear cC; replace H := Option.bind_eq_some_iff.mp H; obtain ⟨bR, jC, H⟩ := H; replace H : (if bR = aB then (rillmeterref15_Right.l1 k5 aC (wrap64 (aB + 1)) a0_0 a0_1 a0_2 l0_3 a0_4 a0_5 l0_6 ((rd_T74 l0_3 aC).f0) ((rd_T74 l0_3 aC).f1)) else (some false)) = some r := H; have jD := mk_ jC; clear jC
                    by_cases bV : bR = aB
                    ·rw [if_pos bV] at H; have mC : (bR == aB) = true := beq_iff_eq.mpr bV; have mD : (bR != aB) = false := bne_eq_false_iff_eq.mpr bV; clear bV; have H' := mk_ H; clear H; have nN := bI.out; have nO := aP.out; obtain ⟨nP, nQ⟩ := cz2_ aE; obtain ⟨nR, nS⟩ := fz2_ aE
                     try go_wp2
                     replace aA := bd_ aA; replace aE := bd_ aE; replace HB := mk_ (below_drew1 HB.out); have aQ : 0 ≤ (aB : Int) := of_decide_eq_true (by first | (with_reducible assumption) | assumption); have aR : aB < (((rd_T74 l0_3 aC).f0).length : Int) := of_decide_eq_true (by first | (with_reducible assumption) | assumption); obtain ⟨aF, e375, aI, aJ, aK⟩ := at_T77 aZ.out aB aQ aR; have aS := aK; have aT := aJ; have aU := aI
                     cases e375; (try replace aI := bt_ HB aI); (try replace aJ := bt_ HB aJ); (try replace aK := bt_ HB aK); replace aQ := eq_true aQ; replace aR := eq_true aR; have bA : 0 ≤ (aB : Int) := of_decide_eq_true (by first | (with_reducible assumption) | assumption); have bB : aB < (((rd_T74 l0_3 aC).f0).length : Int) := of_decide_eq_true (by first | (with_reducible assumption) | assumption); obtain ⟨fH, e376, aM, aN, aO⟩ := at_T77 aZ.out aB bA bB; have aV := aO; have aW := aN; have aX := aM; obtain rfl : aF = fH := (by injection e376); (try replace aM := bt_ HB aM); (try replace aN := bt_ HB aN); (try replace aO := bt_ HB aO); replace bA := eq_true bA; replace bB := eq_true bB; have bW : 0 ≤ (aB : Int) := of_decide_eq_true (by first | (with_reducible assumption) | assumption); have bX : aB < (((rd_T74 l0_3 aC).f0).length : Int) := of_decide_eq_true (by first | (with_reducible assumption) | assumption); obtain ⟨fU, e377, bC, bD, bE⟩ := at_T77 aZ.out aB bW bX
                     have bJ := bE; have bK := bD; have bL := bC; obtain rfl : aF = fU := (by injection e377); (try replace bC := bt_ HB bC); (try replace bD := bt_ HB bD); (try replace bE := bt_ HB bE); replace bW := eq_true bW; replace bX := eq_true bX
                     refine start_ (n := 28) (S := fun w' => w'.cell? ⟨aH, 0, none⟩ = some (.slice (some aF) ((rd_T74 l0_3 aC).f0).length c373_0) ∧ w'.cell? ⟨aH, 1, none⟩ = some (.int .i64 ((rd_T74 l0_3 aC).f1)) ∧ w'.cell? (aF.add ((aB).toNat * 3)) = some (.string ((rd_T77 ((rd_T74 l0_3 aC).f0) aB).f0)) ∧ w'.cell? ⟨(aF.add ((aB).toNat * 3)).block, (aF.add ((aB).toNat * 3)).off + 1, none⟩ = some (.int .i64 ((rd_T77 ((rd_T74 l0_3 aC).f0) aB).f1)) ∧ w'.cell? ⟨(aF.add ((aB).toNat * 3)).block, (aF.add ((aB).toNat * 3)).off + 2, none⟩ = some (.bool ((rd_T77 ((rd_T74 l0_3 aC).f0) aB).f2)) ∧ w'.cell? (aF.add ((aB).toNat * 3)) = some (.string ((rd_T77 ((rd_T74 l0_3 aC).f0) aB).f0)) ∧ w'.cell? ⟨(aF.add ((aB).toNat * 3)).block, (aF.add ((aB).toNat * 3)).off + 1, none⟩ = some (.int .i64 ((rd_T77 ((rd_T74 l0_3 aC).f0) aB).f1)) ∧ w'.cell? ⟨(aF.add ((aB).toNat * 3)).block, (aF.add ((aB).toNat * 3)).off + 2, none⟩ = some (.bool ((rd_T77 ((rd_T74 l0_3 aC).f0) aB).f2)) ∧ w'.cell? (aF.add ((aB).toNat * 3)) = some (.string ((rd_T77 ((rd_T74 l0_3 aC).f0) aB).f0)) ∧ w'.cell? ⟨(aF.add ((aB).toNat * 3)).block, (aF.add ((aB).toNat * 3)).off + 1, none⟩ = some (.int .i64 ((rd_T77 ((rd_T74 l0_3 aC).f0) aB).f1)) ∧ w'.cell? ⟨(aF.add ((aB).toNat * 3)).block, (aF.add ((aB).toNat * 3)).off + 2, none⟩ = some (.bool ((rd_T77 ((rd_T74 l0_3 aC).f0) aB).f2))) (ds := []) (mB 28 0) (by kernel_rfl) rfl rfl ⟨bc_ aE 0, bc_ aE 1, ((HB.out.cell (World.block_lt_of_cell? w _ aU)).trans aU), ((HB.out.cell (World.block_lt_of_cell? w _ aT)).trans aT), ((HB.out.cell (World.block_lt_of_cell? w _ aS)).trans aS), ((HB.out.cell (World.block_lt_of_cell? w _ aX)).trans aX), ((HB.out.cell (World.block_lt_of_cell? w _ aW)).trans aW), ((HB.out.cell (World.block_lt_of_cell? w _ aV)).trans aV), ((HB.out.cell (World.block_lt_of_cell? w _ bL)).trans bL), ((HB.out.cell (World.block_lt_of_cell? w _ bK)).trans bK), ((HB.out.cell (World.block_lt_of_cell? w _ bJ)).trans bJ)⟩ (fun hHeld => ?_); refine with_tabW rillmeterref15_Right.tab14 rillmeterref15_Right.bits14 (fun HT_ HW_ => ?_)
                     generalize wr.drew = nT at aA aE HB aI aJ aK aM aN aO bC bD bE hHeld ⊢; refine pq_ 0 90 28 1 HT_ ?_
                     refine pq_ 2 92 28 5 HT_ ?_
                     refine tq_ 1 91 28 7 HT_ HW_ hHeld ?_
                     refine pq_ 3 93 28 15 HT_ ?_
                     refine pq_ 4 94 28 31 HT_ ?_
                     refine tq_ 5 95 28 63 HT_ HW_ hHeld ?_
                     refine pq_ 6 96 28 127 HT_ ?_
                     refine pq_ 7 97 28 255 HT_ ?_
                     refine pq_ 8 98 28 511 HT_ ?_
                     refine pq_ 10 100 28 1535 HT_ ?_
                     refine tq_ 9 99 28 2047 HT_ HW_ hHeld ?_
                     refine pq_ 11 101 28 4095 HT_ ?_
                     refine pq_ 12 102 28 8191 HT_ ?_
                     refine tq_ 13 103 28 16383 HT_ HW_ hHeld ?_
                     refine pq_ 14 104 28 32767 HT_ ?_
                     refine pq_ 15 105 28 65535 HT_ ?_
                     refine pq_ 16 106 28 131071 HT_ ?_
                     refine pq_ 18 108 28 393215 HT_ ?_
                     refine pq_ 20 110 28 1441791 HT_ ?_
                     refine pq_ 25 115 28 34996223 HT_ ?_
                     refine tq_ 17 107 28 35127295 HT_ HW_ hHeld ?_
                     refine tq_ 19 109 28 35651583 HT_ HW_ hHeld ?_
                     refine pq_ 21 111 28 37748735 HT_ ?_
                     refine pq_ 22 112 28 41943039 HT_ ?_
                     refine tq_ 23 113 28 50331647 HT_ HW_ hHeld ?_
                     refine one_ (i := 24) (N := some 114) (mB 28 67108863) rfl rfl (one_of HT_.out (by kernel_rfl)) (by decide) (fun K hK => ?_); refine goes_ Try.func41 (by kernel_rfl) rfl #[.agg #[.slice (some aF) ((rd_T74 l0_3 aC).f0).length c373_0, .int .i64 ((rd_T74 l0_3 aC).f1)], .string ((rd_T77 ((rd_T74 l0_3 aC).f0) aB).f0)] (by rfl) rfl rfl (by (try simp only [List.map_toArray, List.map_cons, List.map_nil]); first | done | rfl | (simp only [List.length_drop, List.length_take]; rfl)) ?_; with_reducible refine (rillmeterref15_At.calls k5 _ _ ((rd_T74 l0_3 aC).f0) ((rd_T74 l0_3 aC).f1) ((rd_T77 ((rd_T74 l0_3 aC).f0) aB).f0) bR _ ?side1 ?side2 jD.out).mono ?_
                     (case side1 => repeat (first | exact (Kd.C_below aZ.out HB.out) | (with_reducible refine Kd.C_alloc ?_ _) | (with_reducible refine Kd.C_drewN ?_ _) | (with_reducible refine Kd.C_drew ?_))); (case side2 => exact gS.out); rintro e nU ⟨rfl, hb⟩; refine ⟨_, rfl, ?_⟩; replace aA := bb_ aA hb; replace aE := bb_ aE hb; replace HB := bs_ HB hb; (try clear hb); refine hK.out _ _ ⟨bc_ aE 0, bc_ aE 1, ((HB.out.cell (World.block_lt_of_cell? w _ aU)).trans aU), ((HB.out.cell (World.block_lt_of_cell? w _ aT)).trans aT), ((HB.out.cell (World.block_lt_of_cell? w _ aS)).trans aS), ((HB.out.cell (World.block_lt_of_cell? w _ aX)).trans aX), ((HB.out.cell (World.block_lt_of_cell? w _ aW)).trans aW), ((HB.out.cell (World.block_lt_of_cell? w _ aV)).trans aV), ((HB.out.cell (World.block_lt_of_cell? w _ bL)).trans bL), ((HB.out.cell (World.block_lt_of_cell? w _ bK)).trans bK), ((HB.out.cell (World.block_lt_of_cell? w _ bJ)).trans bJ)⟩ (fun hHeld => ?_); clear hK K; refine norm_ (a' := ?_) ?_ ?_; rotate_left
                     ·show Act.put _ (some 114) _ = _
                      simp only [Act.put, sa_, sb_, sc_, i64_w, i32_w]; rfl
                     refine pq_ 26 116 28 134217727 HT_ ?_
                     refine pq_ 27 117 28 268435455 HT_ ?_
                     refine done_ (done_of HT_.out (by kernel_rfl)) ?_
                     try go_wp2
                     go_roundg k5
                     case measure => have := HJ1.out; have := HJ15.out; have := HK3.out; have := HJ29.out; have := HK5.out; omega
                     case rel => exact ⟨(wrap64 (aB + 1)), (by first | rfl | (simp; done) | (simp [*]; done)), H', ⟨by have := HJ1.out; have := HJ15.out; have := HK3.out; have := HJ29.out; have := HK5.out; omega⟩, ⟨bk_ aA⟩, ⟨bk_ aE⟩, ⟨bl_ HB⟩⟩
                    ·rw [if_neg bV] at H; have mC : (bR == aB) = false := beq_eq_false_iff_ne.mpr bV; have mD : (bR != aB) = true := bne_iff_ne.mpr bV; obtain rfl := Option.some.inj H; have nV := bI.out; have nW := aP.out; obtain ⟨nX, nY⟩ := cz2_ aE; obtain ⟨nZ, pA⟩ := fz2_ aE
                     try go_wp2
                     replace aA := bd_ aA; replace aE := bd_ aE; replace HB := mk_ (below_drew1 HB.out); have aQ : 0 ≤ (aB : Int) := of_decide_eq_true (by first | (with_reducible assumption) | assumption); have aR : aB < (((rd_T74 l0_3 aC).f0).length : Int) := of_decide_eq_true (by first | (with_reducible assumption) | assumption); obtain ⟨aF, e375, aI, aJ, aK⟩ := at_T77 aZ.out aB aQ aR; have aS := aK; have aT := aJ; have aU := aI
                     cases e375; (try replace aI := bt_ HB aI); (try replace aJ := bt_ HB aJ); (try replace aK := bt_ HB aK); replace aQ := eq_true aQ; replace aR := eq_true aR; have bA : 0 ≤ (aB : Int) := of_decide_eq_true (by first | (with_reducible assumption) | assumption); have bB : aB < (((rd_T74 l0_3 aC).f0).length : Int) := of_decide_eq_true (by first | (with_reducible assumption) | assumption); obtain ⟨fH, e376, aM, aN, aO⟩ := at_T77 aZ.out aB bA bB; have aV := aO; have aW := aN; have aX := aM; obtain rfl : aF = fH := (by injection e376); (try replace aM := bt_ HB aM); (try replace aN := bt_ HB aN); (try replace aO := bt_ HB aO); replace bA := eq_true bA; replace bB := eq_true bB; have bW : 0 ≤ (aB : Int) := of_decide_eq_true (by first | (with_reducible assumption) | assumption); have bX : aB < (((rd_T74 l0_3 aC).f0).length : Int) := of_decide_eq_true (by first | (with_reducible assumption) | assumption); obtain ⟨fU, e377, bC, bD, bE⟩ := at_T77 aZ.out aB bW bX
                     have bJ := bE; have bK := bD; have bL := bC; obtain rfl : aF = fU := (by injection e377); (try replace bC := bt_ HB bC); (try replace bD := bt_ HB bD); (try replace bE := bt_ HB bE); replace bW := eq_true bW; replace bX := eq_true bX
                     refine start_ (n := 28) (S := fun w' => w'.cell? ⟨aH, 0, none⟩ = some (.slice (some aF) ((rd_T74 l0_3 aC).f0).length c373_0) ∧ w'.cell? ⟨aH, 1, none⟩ = some (.int .i64 ((rd_T74 l0_3 aC).f1)) ∧ w'.cell? (aF.add ((aB).toNat * 3)) = some (.string ((rd_T77 ((rd_T74 l0_3 aC).f0) aB).f0)) ∧ w'.cell? ⟨(aF.add ((aB).toNat * 3)).block, (aF.add ((aB).toNat * 3)).off + 1, none⟩ = some (.int .i64 ((rd_T77 ((rd_T74 l0_3 aC).f0) aB).f1)) ∧ w'.cell? ⟨(aF.add ((aB).toNat * 3)).block, (aF.add ((aB).toNat * 3)).off + 2, none⟩ = some (.bool ((rd_T77 ((rd_T74 l0_3 aC).f0) aB).f2)) ∧ w'.cell? (aF.add ((aB).toNat * 3)) = some (.string ((rd_T77 ((rd_T74 l0_3 aC).f0) aB).f0)) ∧ w'.cell? ⟨(aF.add ((aB).toNat * 3)).block, (aF.add ((aB).toNat * 3)).off + 1, none⟩ = some (.int .i64 ((rd_T77 ((rd_T74 l0_3 aC).f0) aB).f1)) ∧ w'.cell? ⟨(aF.add ((aB).toNat * 3)).block, (aF.add ((aB).toNat * 3)).off + 2, none⟩ = some (.bool ((rd_T77 ((rd_T74 l0_3 aC).f0) aB).f2)) ∧ w'.cell? (aF.add ((aB).toNat * 3)) = some (.string ((rd_T77 ((rd_T74 l0_3 aC).f0) aB).f0)) ∧ w'.cell? ⟨(aF.add ((aB).toNat * 3)).block, (aF.add ((aB).toNat * 3)).off + 1, none⟩ = some (.int .i64 ((rd_T77 ((rd_T74 l0_3 aC).f0) aB).f1)) ∧ w'.cell? ⟨(aF.add ((aB).toNat * 3)).block, (aF.add ((aB).toNat * 3)).off + 2, none⟩ = some (.bool ((rd_T77 ((rd_T74 l0_3 aC).f0) aB).f2))) (ds := []) (mB 28 0) (by kernel_rfl) rfl rfl ⟨bc_ aE 0, bc_ aE 1, ((HB.out.cell (World.block_lt_of_cell? w _ aU)).trans aU), ((HB.out.cell (World.block_lt_of_cell? w _ aT)).trans aT), ((HB.out.cell (World.block_lt_of_cell? w _ aS)).trans aS), ((HB.out.cell (World.block_lt_of_cell? w _ aX)).trans aX), ((HB.out.cell (World.block_lt_of_cell? w _ aW)).trans aW), ((HB.out.cell (World.block_lt_of_cell? w _ aV)).trans aV), ((HB.out.cell (World.block_lt_of_cell? w _ bL)).trans bL), ((HB.out.cell (World.block_lt_of_cell? w _ bK)).trans bK), ((HB.out.cell (World.block_lt_of_cell? w _ bJ)).trans bJ)⟩ (fun hHeld => ?_); refine with_tabW rillmeterref15_Right.tab14 rillmeterref15_Right.bits14 (fun HT_ HW_ => ?_)
                     generalize wr.drew = pB at aA aE HB aI aJ aK aM aN aO bC bD bE hHeld ⊢; refine pq_ 0 90 28 1 HT_ ?_
                     refine pq_ 2 92 28 5 HT_ ?_
                     refine tq_ 1 91 28 7 HT_ HW_ hHeld ?_
                     refine pq_ 3 93 28 15 HT_ ?_
                     refine pq_ 4 94 28 31 HT_ ?_
                     refine tq_ 5 95 28 63 HT_ HW_ hHeld ?_
                     refine pq_ 6 96 28 127 HT_ ?_
                     refine pq_ 7 97 28 255 HT_ ?_
                     refine pq_ 8 98 28 511 HT_ ?_
                     refine pq_ 10 100 28 1535 HT_ ?_
                     refine tq_ 9 99 28 2047 HT_ HW_ hHeld ?_
                     refine pq_ 11 101 28 4095 HT_ ?_
                     refine pq_ 12 102 28 8191 HT_ ?_
                     refine tq_ 13 103 28 16383 HT_ HW_ hHeld ?_
                     refine pq_ 14 104 28 32767 HT_ ?_
                     refine pq_ 15 105 28 65535 HT_ ?_
                     refine pq_ 16 106 28 131071 HT_ ?_
                     refine pq_ 18 108 28 393215 HT_ ?_
                     refine pq_ 20 110 28 1441791 HT_ ?_
                     refine pq_ 25 115 28 34996223 HT_ ?_
                     refine tq_ 17 107 28 35127295 HT_ HW_ hHeld ?_
                     refine tq_ 19 109 28 35651583 HT_ HW_ hHeld ?_
                     refine pq_ 21 111 28 37748735 HT_ ?_
                     refine pq_ 22 112 28 41943039 HT_ ?_
                     refine tq_ 23 113 28 50331647 HT_ HW_ hHeld ?_
                     refine one_ (i := 24) (N := some 114) (mB 28 67108863) rfl rfl (one_of HT_.out (by kernel_rfl)) (by decide) (fun K hK => ?_); refine goes_ Try.func41 (by kernel_rfl) rfl #[.agg #[.slice (some aF) ((rd_T74 l0_3 aC).f0).length c373_0, .int .i64 ((rd_T74 l0_3 aC).f1)], .string ((rd_T77 ((rd_T74 l0_3 aC).f0) aB).f0)] (by rfl) rfl rfl (by (try simp only [List.map_toArray, List.map_cons, List.map_nil]); first | done | rfl | (simp only [List.length_drop, List.length_take]; rfl)) ?_; with_reducible refine (rillmeterref15_At.calls k5 _ _ ((rd_T74 l0_3 aC).f0) ((rd_T74 l0_3 aC).f1) ((rd_T77 ((rd_T74 l0_3 aC).f0) aB).f0) bR _ ?side1 ?side2 jD.out).mono ?_
                     (case side1 => repeat (first | exact (Kd.C_below aZ.out HB.out) | (with_reducible refine Kd.C_alloc ?_ _) | (with_reducible refine Kd.C_drewN ?_ _) | (with_reducible refine Kd.C_drew ?_))); (case side2 => exact gS.out); rintro e pC ⟨rfl, hb⟩; refine ⟨_, rfl, ?_⟩; replace aA := bb_ aA hb; replace aE := bb_ aE hb; replace HB := bs_ HB hb; (try clear hb); refine hK.out _ _ ⟨bc_ aE 0, bc_ aE 1, ((HB.out.cell (World.block_lt_of_cell? w _ aU)).trans aU), ((HB.out.cell (World.block_lt_of_cell? w _ aT)).trans aT), ((HB.out.cell (World.block_lt_of_cell? w _ aS)).trans aS), ((HB.out.cell (World.block_lt_of_cell? w _ aX)).trans aX), ((HB.out.cell (World.block_lt_of_cell? w _ aW)).trans aW), ((HB.out.cell (World.block_lt_of_cell? w _ aV)).trans aV), ((HB.out.cell (World.block_lt_of_cell? w _ bL)).trans bL), ((HB.out.cell (World.block_lt_of_cell? w _ bK)).trans bK), ((HB.out.cell (World.block_lt_of_cell? w _ bJ)).trans bJ)⟩ (fun hHeld => ?_); clear hK K; refine norm_ (a' := ?_) ?_ ?_; rotate_left
                     ·show Act.put _ (some 114) _ = _
                      simp only [Act.put, sa_, sb_, sc_, i64_w, i32_w]; rfl
                     refine pq_ 26 116 28 134217727 HT_ ?_
                     refine pq_ 27 117 28 268435455 HT_ ?_
                     refine done_ (done_of HT_.out (by kernel_rfl)) ?_
                     try go_wp2
                     go_ret; exact ⟨by first | rfl | (simp [errW_none, errW_some] <;> rfl) | (simp [*, errW_none, errW_some] <;> rfl), bl_ HB⟩
                 ·rw [if_neg fM] at H; exact absurd H (by simp)
                ·rw [if_neg cA] at H; have lY : decide (aB < (((rd_T74 l0_3 aC).f0).length : Int)) = false := decide_eq_false cA; clear cA; have H' := mk_ H; clear H; have pD := bI.out; have pE := aP.out; obtain ⟨pF, pG⟩ := cz2_ aE; obtain ⟨pH, pI⟩ := fz2_ aE
                 go_wp2
                 go_roundg k5
                 case measure => have := HJ1.out; have := HJ15.out; have := HK3.out; have := HJ29.out; have := HK5.out; omega
                 case rel => exact ⟨(wrap64 (aC + 1)), (by first | rfl | (simp; done) | (simp [*]; done)), H', ⟨by have := HJ1.out; have := HJ15.out; have := HK3.out; have := HJ29.out; have := HK5.out; omega⟩, ⟨bk_ aA⟩, ⟨bl_ HB⟩⟩
          ·rw [if_neg bZ] at H; exact absurd H (by simp)
         ·rw [if_neg bO] at H; have fR : decide (aC < (l0_3.length : Int)) = false := decide_eq_false bO; clear bO; obtain rfl := Option.some.inj H; obtain ⟨pJ, pK, pL, pM, pN, pO, pP⟩ := cz7_ aA; obtain ⟨pQ, pR, pS, pT, pU, pV, pW⟩ := fz7_ aA
          go_wp2
          go_ret; exact ⟨by first | rfl | (simp [errW_none, errW_some] <;> rfl) | (simp [*, errW_none, errW_some] <;> rfl), bl_ HB⟩

end Go.Proofs.Ytljmjjeghebdpaa.PElasticNews
