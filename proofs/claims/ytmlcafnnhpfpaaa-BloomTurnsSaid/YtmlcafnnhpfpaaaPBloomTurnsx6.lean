/- The functions that a law uses, each as a plain function, with the proof that a call of the Go function comes to its answer. Condition of each: the arguments read as the data that it names, and the plain function has an answer. Written by a program of this session (standin.py). -/
import Derived.Test.YtmlcafnnhpfpaaaPBloomTurnsx0
import Derived.Test.YtmlcafnnhpfpaaaPBloomTurnsx1
import Derived.Test.YtmlcafnnhpfpaaaPBloomTurnsx2
import Derived.Test.YtmlcafnnhpfpaaaPBloomTurnsx3
import Derived.Test.YtmlcafnnhpfpaaaPBloomTurnsx4
import Derived.Test.YtmlcafnnhpfpaaaPBloomTurnsx5
import Derived.Lib.SliceRun
namespace Go.Proofs.Ytmlcafnnhpfpaaa.PBloomTurns
open Go.RowKit Go.Proofs.YtmlcafnnhpfpaaaW.PrintWords Go.Proofs.YtmlcafnnhpfpaaaW.PrintLast Go.Proofs.YtmlcafnnhpfpaaaW.PrintMore
attribute [local go_sem] max2_int min2_int max_two min_two max_three min_three max_four min_four   -- for this text's walks alone
set_option linter.unusedVariables false
set_option linter.unusedSimpArgs false

/-! ### rillmeterlaw10_BloomTurns: function 4 -/
mutual
def rillmeterlaw10_BloomTurns.j0 : Nat → ByteArray → Bool → Int → Int → List Bool → Option (Bool)
  | 0, _, _, _, _, _ => none
  | k + 1, x1, x26, x238000, x238001, x238002 => if x26 = true then ((rillmeterlaw10_awake.f k).bind fun t238 => (some t238)) else ((rillmeterlaw10_ref.f x238000 x238001 x238002).bind fun bt239 => ((bloom_Add.f k x238000 x238001 x238002 x1).bind fun bt245 => ((bloom_Places.f k x238000 x238001 x238002 x1).bind fun t250 => (rillmeterlaw10_BloomTurns.l0 k x1 t250 0 x238002 (x238002.length : Int) 0 x238000 x238001 x238002 bt239.1 bt239.2.1 bt239.2.2 bt245.1 bt245.2.1 bt245.2.2))))
def rillmeterlaw10_BloomTurns.l0 : Nat → ByteArray → List Int → Int → List Bool → Int → Int → Int → Int → List Bool → Int → Int → List Bool → Int → Int → List Bool → Option (Bool)
  | 0, _, _, _, _, _, _, _, _, _, _, _, _, _, _, _ => none
  | k + 1, x1, x7, x8, x37, x38, x39, x238000, x238001, x238002, x245000, x245001, x245002, x254000, x254001, x254002 => if x39 < x38 then (if 0 ≤ x39 then (if x39 < (x37.length : Int) then (if rdOf false x37 x39 = true then (rillmeterlaw10_BloomTurns.l0 k x1 x7 (wrap64 (x8 + 1)) x37 x38 (wrap64 (x39 + 1)) x238000 x238001 x238002 x245000 x245001 x245002 x254000 x254001 x254002) else (rillmeterlaw10_BloomTurns.l0 k x1 x7 x8 x37 x38 (wrap64 (x39 + 1)) x238000 x238001 x238002 x245000 x245001 x245002 x254000 x254001 x254002)) else (none)) else (none)) else ((rillmeterref10_Right.f x245000 x245001 x245002).bind fun t255 => (if t255 = true then (if (x7.length : Int) = x238001 then (rillmeterlaw10_BloomTurns.l1 k x1 x8 x7 (x7.length : Int) 0 x238000 x238001 x238002 x245000 x245001 x245002 x254000 x254001 x254002) else (some false)) else ((bloom_Right.f x238000 x238001 x238002).bind fun t256 => (if t256 = true then (some false) else ((rillmeterlaw10_ref.f x254000 x254001 x254002).bind fun bt257 => ((rillmeterref10_Equal.f k bt257.1 bt257.2.1 bt257.2.2 x245000 x245001 x245002).bind fun t262 => (if t262 = true then (if (x7.length : Int) = 0 then ((bloom_Has.f k x238000 x238001 x238002 x1).bind fun t263 => (if t263 = true then (some false) else ((bloom_Set.f k x238000 x238001 x238002).bind fun t264 => (if t264 = 0 then ((rillmeterlaw10_awake.f k).bind fun t265 => (some t265)) else (some false))))) else (some false)) else (some false))))))))
def rillmeterlaw10_BloomTurns.l1 : Nat → ByteArray → Int → List Int → Int → Int → Int → Int → List Bool → Int → Int → List Bool → Int → Int → List Bool → Option (Bool)
  | 0, _, _, _, _, _, _, _, _, _, _, _, _, _, _ => none
  | k + 1, x1, x8, x83, x84, x85, x238000, x238001, x238002, x245000, x245001, x245002, x254000, x254001, x254002 => if x85 < x84 then (if 0 ≤ x85 then (if x85 < (x83.length : Int) then ((rillmeterref02_Row.f k x238000 x85).bind fun t267 => ((rillmeterref02_Cell.f k t267 x1 (x238002.length : Int)).bind fun t268 => (if (rd x83 x85) = t268 then (rillmeterlaw10_BloomTurns.l1 k x1 x8 x83 x84 (wrap64 (x85 + 1)) x238000 x238001 x238002 x245000 x245001 x245002 x254000 x254001 x254002) else (some false)))) else (none)) else (none)) else ((bloom_Right.f x238000 x238001 x238002).bind fun t269 => (if t269 = true then ((rillmeterlaw10_ref.f x254000 x254001 x254002).bind fun bt270 => ((rillmeterref10_Add.f k x245000 x245001 x245002 x1).bind fun bt275 => ((rillmeterref10_Equal.f k bt270.1 bt270.2.1 bt270.2.2 bt275.1 bt275.2.1 bt275.2.2).bind fun t280 => (if t280 = true then ((bloom_Has.f k x238000 x238001 x238002 x1).bind fun t281 => ((rillmeterref10_Has.f k x245000 x245001 x245002 x1).bind fun t282 => (if (t281 == t282) = true then ((bloom_Set.f k x238000 x238001 x238002).bind fun t283 => (if t283 = x8 then ((rillmeterlaw10_awake.f k).bind fun t284 => (some t284)) else (some false))) else (some false)))) else (some false))))) else (some false)))
end
def rillmeterlaw10_BloomTurns.f (k : Nat) (a0_0 : Int) (a0_1 : Int) (l0_2 : List Bool) (a1 : ByteArray) : Option (Bool) := if (l0_2.length : Int) > 300 then (rillmeterlaw10_BloomTurns.j0 k a1 true a0_0 a0_1 l0_2) else (if (a1.size : Int) > 100 then (rillmeterlaw10_BloomTurns.j0 k a1 true a0_0 a0_1 l0_2) else (rillmeterlaw10_BloomTurns.j0 k a1 (decide (a0_1 > 100)) a0_0 a0_1 l0_2))
theorem rillmeterlaw10_BloomTurns.mono_l : ∀ k, (∀ y0 y1 y2 y3 y4, LeO (rillmeterlaw10_BloomTurns.j0 k y0 y1 y2 y3 y4) (rillmeterlaw10_BloomTurns.j0 (k + 1) y0 y1 y2 y3 y4)) ∧ (∀ y0 y1 y2 y3 y4 y5 y6 y7 y8 y9 y10 y11 y12 y13 y14, LeO (rillmeterlaw10_BloomTurns.l0 k y0 y1 y2 y3 y4 y5 y6 y7 y8 y9 y10 y11 y12 y13 y14) (rillmeterlaw10_BloomTurns.l0 (k + 1) y0 y1 y2 y3 y4 y5 y6 y7 y8 y9 y10 y11 y12 y13 y14)) ∧ (∀ y0 y1 y2 y3 y4 y5 y6 y7 y8 y9 y10 y11 y12 y13, LeO (rillmeterlaw10_BloomTurns.l1 k y0 y1 y2 y3 y4 y5 y6 y7 y8 y9 y10 y11 y12 y13) (rillmeterlaw10_BloomTurns.l1 (k + 1) y0 y1 y2 y3 y4 y5 y6 y7 y8 y9 y10 y11 y12 y13))
  | 0 => ⟨fun _ _ _ _ _ r h => by simp [rillmeterlaw10_BloomTurns.j0] at h, fun _ _ _ _ _ _ _ _ _ _ _ _ _ _ _ r h => by simp [rillmeterlaw10_BloomTurns.l0] at h, fun _ _ _ _ _ _ _ _ _ _ _ _ _ _ r h => by simp [rillmeterlaw10_BloomTurns.l1] at h⟩
  | k + 1 => by
    obtain ⟨ih0, ih1, ih2⟩ := rillmeterlaw10_BloomTurns.mono_l k
    refine ⟨?_, ?_, ?_⟩
    · intro y0 y1 y2 y3 y4
      unfold rillmeterlaw10_BloomTurns.j0
      repeat' first
      | (with_reducible exact ih0 _ _ _ _ _)
      | (with_reducible exact ih1 _ _ _ _ _ _ _ _ _ _ _ _ _ _ _)
      | (with_reducible exact ih2 _ _ _ _ _ _ _ _ _ _ _ _ _ _)
      | (with_reducible exact bloom_Add.mono _ _ _ _ _)
      | (with_reducible exact bloom_Has.mono _ _ _ _ _)
      | (with_reducible exact bloom_Places.mono _ _ _ _ _)
      | (with_reducible exact bloom_Set.mono _ _ _ _)
      | (with_reducible exact rillmeterlaw10_awake.mono _)
      | (with_reducible exact rillmeterref02_Cell.mono _ _ _ _)
      | (with_reducible exact rillmeterref02_Row.mono _ _ _)
      | (with_reducible exact rillmeterref10_Add.mono _ _ _ _ _)
      | (with_reducible exact rillmeterref10_Equal.mono _ _ _ _ _ _ _)
      | (with_reducible exact rillmeterref10_Has.mono _ _ _ _ _)
      | (with_reducible exact LeO.refl _)
      | (with_reducible exact LeO.none _)
      | (with_reducible refine LeO.ite ?_ ?_)
      | (with_reducible refine LeO.bind ?_ (fun _ => ?_))
      | exact ih0 _ _ _ _ _
      | exact ih1 _ _ _ _ _ _ _ _ _ _ _ _ _ _ _
      | exact ih2 _ _ _ _ _ _ _ _ _ _ _ _ _ _
      | exact bloom_Add.mono _ _ _ _ _
      | exact bloom_Has.mono _ _ _ _ _
      | exact bloom_Places.mono _ _ _ _ _
      | exact bloom_Set.mono _ _ _ _
      | exact rillmeterlaw10_awake.mono _
      | exact rillmeterref02_Cell.mono _ _ _ _
      | exact rillmeterref02_Row.mono _ _ _
      | exact rillmeterref10_Add.mono _ _ _ _ _
      | exact rillmeterref10_Equal.mono _ _ _ _ _ _ _
      | exact rillmeterref10_Has.mono _ _ _ _ _
      | exact LeO.none _
      | refine LeO.ite ?_ ?_
      | refine LeO.bind ?_ (fun _ => ?_)
    · intro y0 y1 y2 y3 y4 y5 y6 y7 y8 y9 y10 y11 y12 y13 y14
      unfold rillmeterlaw10_BloomTurns.l0
      repeat' first
      | (with_reducible exact ih0 _ _ _ _ _)
      | (with_reducible exact ih1 _ _ _ _ _ _ _ _ _ _ _ _ _ _ _)
      | (with_reducible exact ih2 _ _ _ _ _ _ _ _ _ _ _ _ _ _)
      | (with_reducible exact bloom_Add.mono _ _ _ _ _)
      | (with_reducible exact bloom_Has.mono _ _ _ _ _)
      | (with_reducible exact bloom_Places.mono _ _ _ _ _)
      | (with_reducible exact bloom_Set.mono _ _ _ _)
      | (with_reducible exact rillmeterlaw10_awake.mono _)
      | (with_reducible exact rillmeterref02_Cell.mono _ _ _ _)
      | (with_reducible exact rillmeterref02_Row.mono _ _ _)
      | (with_reducible exact rillmeterref10_Add.mono _ _ _ _ _)
      | (with_reducible exact rillmeterref10_Equal.mono _ _ _ _ _ _ _)
      | (with_reducible exact rillmeterref10_Has.mono _ _ _ _ _)
      | (with_reducible exact LeO.refl _)
      | (with_reducible exact LeO.none _)
      | (with_reducible refine LeO.ite ?_ ?_)
      | (with_reducible refine LeO.bind ?_ (fun _ => ?_))
      | exact ih0 _ _ _ _ _
      | exact ih1 _ _ _ _ _ _ _ _ _ _ _ _ _ _ _
      | exact ih2 _ _ _ _ _ _ _ _ _ _ _ _ _ _
      | exact bloom_Add.mono _ _ _ _ _
      | exact bloom_Has.mono _ _ _ _ _
      | exact bloom_Places.mono _ _ _ _ _
      | exact bloom_Set.mono _ _ _ _
      | exact rillmeterlaw10_awake.mono _
      | exact rillmeterref02_Cell.mono _ _ _ _
      | exact rillmeterref02_Row.mono _ _ _
      | exact rillmeterref10_Add.mono _ _ _ _ _
      | exact rillmeterref10_Equal.mono _ _ _ _ _ _ _
      | exact rillmeterref10_Has.mono _ _ _ _ _
      | exact LeO.none _
      | refine LeO.ite ?_ ?_
      | refine LeO.bind ?_ (fun _ => ?_)
    · intro y0 y1 y2 y3 y4 y5 y6 y7 y8 y9 y10 y11 y12 y13
      unfold rillmeterlaw10_BloomTurns.l1
      repeat' first
      | (with_reducible exact ih0 _ _ _ _ _)
      | (with_reducible exact ih1 _ _ _ _ _ _ _ _ _ _ _ _ _ _ _)
      | (with_reducible exact ih2 _ _ _ _ _ _ _ _ _ _ _ _ _ _)
      | (with_reducible exact bloom_Add.mono _ _ _ _ _)
      | (with_reducible exact bloom_Has.mono _ _ _ _ _)
      | (with_reducible exact bloom_Places.mono _ _ _ _ _)
      | (with_reducible exact bloom_Set.mono _ _ _ _)
      | (with_reducible exact rillmeterlaw10_awake.mono _)
      | (with_reducible exact rillmeterref02_Cell.mono _ _ _ _)
      | (with_reducible exact rillmeterref02_Row.mono _ _ _)
      | (with_reducible exact rillmeterref10_Add.mono _ _ _ _ _)
      | (with_reducible exact rillmeterref10_Equal.mono _ _ _ _ _ _ _)
      | (with_reducible exact rillmeterref10_Has.mono _ _ _ _ _)
      | (with_reducible exact LeO.refl _)
      | (with_reducible exact LeO.none _)
      | (with_reducible refine LeO.ite ?_ ?_)
      | (with_reducible refine LeO.bind ?_ (fun _ => ?_))
      | exact ih0 _ _ _ _ _
      | exact ih1 _ _ _ _ _ _ _ _ _ _ _ _ _ _ _
      | exact ih2 _ _ _ _ _ _ _ _ _ _ _ _ _ _
      | exact bloom_Add.mono _ _ _ _ _
      | exact bloom_Has.mono _ _ _ _ _
      | exact bloom_Places.mono _ _ _ _ _
      | exact bloom_Set.mono _ _ _ _
      | exact rillmeterlaw10_awake.mono _
      | exact rillmeterref02_Cell.mono _ _ _ _
      | exact rillmeterref02_Row.mono _ _ _
      | exact rillmeterref10_Add.mono _ _ _ _ _
      | exact rillmeterref10_Equal.mono _ _ _ _ _ _ _
      | exact rillmeterref10_Has.mono _ _ _ _ _
      | exact LeO.none _
      | refine LeO.ite ?_ ?_
      | refine LeO.bind ?_ (fun _ => ?_)
theorem rillmeterlaw10_BloomTurns.mono : ∀ a0 a1 a2 a3 k, LeO (rillmeterlaw10_BloomTurns.f k a0 a1 a2 a3) (rillmeterlaw10_BloomTurns.f (k + 1) a0 a1 a2 a3) := by
  intro a0 a1 a2 a3 k
  obtain ⟨ih0, ih1, ih2⟩ := rillmeterlaw10_BloomTurns.mono_l k
  unfold rillmeterlaw10_BloomTurns.f
  repeat' first
      | (with_reducible exact ih0 _ _ _ _ _)
      | (with_reducible exact ih1 _ _ _ _ _ _ _ _ _ _ _ _ _ _ _)
      | (with_reducible exact ih2 _ _ _ _ _ _ _ _ _ _ _ _ _ _)
      | (with_reducible exact bloom_Add.mono _ _ _ _ _)
      | (with_reducible exact bloom_Has.mono _ _ _ _ _)
      | (with_reducible exact bloom_Places.mono _ _ _ _ _)
      | (with_reducible exact bloom_Set.mono _ _ _ _)
      | (with_reducible exact rillmeterlaw10_awake.mono _)
      | (with_reducible exact rillmeterref02_Cell.mono _ _ _ _)
      | (with_reducible exact rillmeterref02_Row.mono _ _ _)
      | (with_reducible exact rillmeterref10_Add.mono _ _ _ _ _)
      | (with_reducible exact rillmeterref10_Equal.mono _ _ _ _ _ _ _)
      | (with_reducible exact rillmeterref10_Has.mono _ _ _ _ _)
      | (with_reducible exact LeO.refl _)
      | (with_reducible exact LeO.none _)
      | (with_reducible refine LeO.ite ?_ ?_)
      | (with_reducible refine LeO.bind ?_ (fun _ => ?_))
      | exact ih0 _ _ _ _ _
      | exact ih1 _ _ _ _ _ _ _ _ _ _ _ _ _ _ _
      | exact ih2 _ _ _ _ _ _ _ _ _ _ _ _ _ _
      | exact bloom_Add.mono _ _ _ _ _
      | exact bloom_Has.mono _ _ _ _ _
      | exact bloom_Places.mono _ _ _ _ _
      | exact bloom_Set.mono _ _ _ _
      | exact rillmeterlaw10_awake.mono _
      | exact rillmeterref02_Cell.mono _ _ _ _
      | exact rillmeterref02_Row.mono _ _ _
      | exact rillmeterref10_Add.mono _ _ _ _ _
      | exact rillmeterref10_Equal.mono _ _ _ _ _ _ _
      | exact rillmeterref10_Has.mono _ _ _ _ _
      | exact LeO.none _
      | refine LeO.ite ?_ ?_
      | refine LeO.bind ?_ (fun _ => ?_)
def rillmeterlaw10_BloomTurns.T4 : Bool × List (List Nat × List Nat) := (true, [([], []), ([], []), ([0, 1], [0, 1]), ([], []), ([], []), ([3, 4, 2], [3, 4]), ([], []), ([6, 2, 5, 0, 1, 2, 6], [2, 6]), ([5, 7, 0, 1, 2, 3, 4, 5, 6, 7], [5])])
def rillmeterlaw10_BloomTurns.B4 : List Nat := [0, 0, 3, 0, 0, 31, 0, 127, 255]
theorem rillmeterlaw10_BloomTurns.tab4 : rtab .any (opsOf Try.f4 4) = rillmeterlaw10_BloomTurns.T4 := by kernel_rfl
theorem rillmeterlaw10_BloomTurns.bits4 : waitsOk rillmeterlaw10_BloomTurns.T4.2 rillmeterlaw10_BloomTurns.B4 = true := by kernel_rfl
def rillmeterlaw10_BloomTurns.T13 : Bool × List (List Nat × List Nat) := (true, [([], []), ([0], [0]), ([1], [1]), ([2, 1], [2]), ([3], [3]), ([4, 3, 3], [3, 4]), ([3], [3]), ([5, 6, 5, 3], [3, 5, 6]), ([3, 7], [3, 7]), ([8, 7], [8]), ([9], [9]), ([10, 9], [9, 10]), ([11, 9], [9, 11]), ([9, 12], [9, 12]), ([13, 9], [13]), ([14], [14]), ([14], [14]), ([15, 16, 14, 14], [14, 15, 16]), ([17, 14], [14, 17]), ([14, 18], [14, 18]), ([19, 17], [19]), ([20], [20]), ([21, 20, 20], [20, 21]), ([22, 20], [20, 22]), ([20, 23], [20, 23]), ([24, 22], [24]), ([25, 25], [25]), ([25, 26], [25, 26]), ([27, 26, 0, 1, 2, 3, 4, 5, 6, 7, 8, 9, 10, 11, 12, 13, 14, 15, 16, 17, 18, 19, 20, 21, 22, 23, 24, 25, 26, 27], [27])])
def rillmeterlaw10_BloomTurns.B13 : List Nat := [0, 1, 3, 7, 15, 31, 15, 127, 255, 511, 1023, 2047, 4095, 8191, 16383, 32767, 32767, 131071, 262143, 524287, 1048575, 2097151, 4194303, 8388607, 16777215, 33554431, 67108863, 134217727, 268435455]
theorem rillmeterlaw10_BloomTurns.tab13 : rtab .any (opsOf Try.f4 13) = rillmeterlaw10_BloomTurns.T13 := by kernel_rfl
theorem rillmeterlaw10_BloomTurns.bits13 : waitsOk rillmeterlaw10_BloomTurns.T13.2 rillmeterlaw10_BloomTurns.B13 = true := by kernel_rfl
def rillmeterlaw10_BloomTurns.T19 : Bool × List (List Nat × List Nat) := (true, [([], []), ([], []), ([1], [1]), ([], []), ([2, 3], [2, 3]), ([], []), ([], []), ([6], [6]), ([7], [7]), ([4, 5, 8, 4], [4, 5, 8]), ([0, 9], [0, 9])])
def rillmeterlaw10_BloomTurns.B19 : List Nat := [0, 0, 2, 0, 14, 0, 0, 64, 192, 510, 1023]
theorem rillmeterlaw10_BloomTurns.tab19 : rtab .any (opsOf Try.f4 19) = rillmeterlaw10_BloomTurns.T19 := by kernel_rfl
theorem rillmeterlaw10_BloomTurns.bits19 : waitsOk rillmeterlaw10_BloomTurns.T19.2 rillmeterlaw10_BloomTurns.B19 = true := by kernel_rfl
def rillmeterlaw10_BloomTurns.T22 : Bool × List (List Nat × List Nat) := (true, [([], []), ([0], [0]), ([1, 1], [1]), ([2], [2]), ([3, 2, 2], [2, 3]), ([2], [2]), ([2], [2]), ([5, 6, 4, 2], [2, 5, 6]), ([4, 7, 7, 2], [2, 4, 7]), ([2, 8], [2, 8]), ([9, 8], [9]), ([10], [10]), ([10], [10]), ([11, 12, 10, 10], [10, 11, 12]), ([10], [10]), ([10], [10]), ([14, 15, 13, 10], [10, 14, 15]), ([13, 16, 10], [10, 13, 16]), ([10, 17], [10, 17]), ([18, 16], [18]), ([19], [19]), ([20, 19, 19], [19, 20]), ([19], [19]), ([21, 22, 19], [19, 21, 22]), ([19, 23], [19, 23]), ([24, 21], [24]), ([25, 25], [25]), ([25, 26], [25, 26]), ([27, 26, 0, 1, 2, 3, 4, 5, 6, 7, 8, 9, 10, 11, 12, 13, 14, 15, 16, 17, 18, 19, 20, 21, 22, 23, 24, 25, 26, 27], [27])])
def rillmeterlaw10_BloomTurns.B22 : List Nat := [0, 1, 3, 7, 15, 7, 7, 127, 255, 511, 1023, 2047, 2047, 8191, 2047, 2047, 65535, 131071, 262143, 524287, 1048575, 2097151, 1048575, 8388607, 16777215, 33554431, 67108863, 134217727, 268435455]
theorem rillmeterlaw10_BloomTurns.tab22 : rtab .any (opsOf Try.f4 22) = rillmeterlaw10_BloomTurns.T22 := by kernel_rfl
theorem rillmeterlaw10_BloomTurns.bits22 : waitsOk rillmeterlaw10_BloomTurns.T22.2 rillmeterlaw10_BloomTurns.B22 = true := by kernel_rfl
set_option maxHeartbeats 8000000 in
set_option maxRecDepth 100000 in
theorem rillmeterlaw10_BloomTurns.calls (k : Nat) (a0_0 : Int) (a0_1 : Int) (A0_2 : Option Addr) (c0_2 : Nat) (l0_2 : List Bool) (a1 : ByteArray) (r : Bool) (w : World) (hr0_2 : Kd.C Kd.bool w A0_2 l0_2.length l0_2) (hc0_2 : l0_2.length ≤ c0_2) (h : rillmeterlaw10_BloomTurns.f k a0_0 a0_1 l0_2 a1 = some r) (hrt : Aside0 (r = true)) :
    Calls Try.prog 4 #[.agg #[.int .u64 a0_0, .int .i64 a0_1, .slice A0_2 l0_2.length c0_2], .string a1] w fun e w' => e = .returned (.bool r) ∧ Below w.heap.size w w' := by
  have hu25 := Try.underlying25
  have hu30 := Try.underlying30
  have HR0_2 := Aside0.mk hr0_2
  have HC0_2 := Aside0.mk hc0_2
  clear hr0_2 hc0_2
  have HB := Aside0.mk (Below.refl w.heap.size w)
  have H : (if (l0_2.length : Int) > 300 then (rillmeterlaw10_BloomTurns.j0 k a1 true a0_0 a0_1 l0_2) else (if (a1.size : Int) > 100 then (rillmeterlaw10_BloomTurns.j0 k a1 true a0_0 a0_1 l0_2) else (rillmeterlaw10_BloomTurns.j0 k a1 (decide (a0_1 > 100)) a0_0 a0_1 l0_2))) = some r := h
  clear h
  have HC3 := Aside0.mk H
  clear H
  go_enter Try.func4, Try.ntmps4
  go_upto_region 1 with (first | ((with_reducible refine gate_dst (N := 2) rfl ?_); (try (refine gate_guard (by rfl) ?_; dsimp only)); refine box_event ?hg (N := 2) ?hd (cs := #[.int .u64 a0_0, .int .i64 a0_1, .slice A0_2 l0_2.length c0_2]) (t := 25) ?hr ?_; (case hd => rfl); (case hg => rfl); (case hr => first | (go_simp; done) | (go_simp; rfl)); intro gb237 hg w4 hbox hb; have n0_ := Aside0.mk (below_step (by repeat (first | (with_reducible first | exact HB.out | apply below_alloc | apply pw_below_drewN | apply below_drew1) | exact HB.out)) hb); have n1_ := Aside0.mk (hbox); have n2_ := Aside0.mk ((by rw [hg]; exact (below_size (by repeat (first | (with_reducible first | exact HB.out | apply below_alloc | apply pw_below_drewN | apply below_drew1) | exact HB.out))) : w.heap.size ≤ gb237)); have n3_ := Aside0.mk ((by rw [hg]; exact (below_size (by repeat (first | (with_reducible first | exact HB.out | apply below_alloc | apply pw_below_drewN | apply below_drew1) | exact HB.out))) : w.heap.size ≤ gb237)); clear HB; have HB := n0_; have BK237 := n1_; have GW237 := n2_; have GE237 := n3_; clear n0_ n1_ n2_ n3_; clear hb hbox hg))
  (try simp only [Act.put, List.setIfInBounds_toArray, List.set_cons_zero, List.set_cons_succ])
  go_cut [26] (fun v26 wc => ∃ (kq : Nat) (x26_2 : Bool), v26 = .bool x26_2 ∧ Aside0 (rillmeterlaw10_BloomTurns.j0 kq a1 x26_2 a0_0 a0_1 l0_2 = some r) ∧ Aside0 (kq ≤ k) ∧ Aside0 (wc.heap[gb237]? = some (.cells #[.int .u64 a0_0, .int .i64 a0_1, (.slice A0_2 l0_2.length c0_2)] 25 (0, 0))) ∧ Aside0 (Below w.heap.size w wc))
  case first =>
    have H := HC3.out
    clear HC3
    by_cases c5 : (l0_2.length : Int) > 300
    · rw [if_pos c5] at H
      have c5b0 : decide (300 < (l0_2.length : Int)) = true := decide_eq_true c5
      have c5b1 : decide (300 < l0_2.length) = true := decide_eq_true (by omega)
      clear c5
      (first | rw [c5b0] | (simp only [i64_w, i32_w]; rw [c5b0]) | skip)
      have H' := Aside0.mk H
      clear H
      have hcz6_0 : w4.cell? ⟨gb237, 0, none⟩ = some (.int .u64 a0_0) := (blk_cell BK237.out 0).trans rfl
      have hcz6_1 : w4.cell? ⟨gb237, 1, none⟩ = some (.int .i64 a0_1) := (blk_cell BK237.out 1).trans rfl
      have hcz6_2 : w4.cell? ⟨gb237, 2, none⟩ = some (.slice A0_2 l0_2.length c0_2) := (blk_cell BK237.out 2).trans rfl
      have hfz6_0 := blk_frozen BK237.out 0
      have hfz6_1 := blk_frozen BK237.out 1
      have hfz6_2 := blk_frozen BK237.out 2
      go_wp2
      go_meet
      case rel => exact ⟨_, (true), (by first | rfl | (simp; done) | (simp [*]; done)), H', ⟨by first | omega | exact Nat.le_refl _⟩, ⟨by (with_reducible repeat (first | refine blk_drewN ?_ _ | refine blk_drew ?_ | refine blk_alloc ?_ _)); exact BK237.out⟩, ⟨by repeat (first | (with_reducible first | exact HB.out | apply below_alloc | apply pw_below_drewN | apply below_drew1 | refine below_set ?_ GE237.out) | exact HB.out)⟩⟩
    · rw [if_neg c5] at H
      have c5b0 : decide (300 < (l0_2.length : Int)) = false := decide_eq_false c5
      have c5b1 : decide (300 < l0_2.length) = false := decide_eq_false (by omega)
      clear c5
      (first | rw [c5b0] | (simp only [i64_w, i32_w]; rw [c5b0]) | skip)
      by_cases c7 : (a1.size : Int) > 100
      · rw [if_pos c7] at H
        have c7b0 : decide (100 < (a1.size : Int)) = true := decide_eq_true c7
        have c7b1 : decide (100 < a1.size) = true := decide_eq_true (by omega)
        clear c7
        have H' := Aside0.mk H
        clear H
        have hcz8_0 : w4.cell? ⟨gb237, 0, none⟩ = some (.int .u64 a0_0) := (blk_cell BK237.out 0).trans rfl
        have hcz8_1 : w4.cell? ⟨gb237, 1, none⟩ = some (.int .i64 a0_1) := (blk_cell BK237.out 1).trans rfl
        have hcz8_2 : w4.cell? ⟨gb237, 2, none⟩ = some (.slice A0_2 l0_2.length c0_2) := (blk_cell BK237.out 2).trans rfl
        have hfz8_0 := blk_frozen BK237.out 0
        have hfz8_1 := blk_frozen BK237.out 1
        have hfz8_2 := blk_frozen BK237.out 2
        go_wp2
        go_meet
        case rel => exact ⟨_, (true), (by first | rfl | (simp; done) | (simp [*]; done)), H', ⟨by first | omega | exact Nat.le_refl _⟩, ⟨by (with_reducible repeat (first | refine blk_drewN ?_ _ | refine blk_drew ?_ | refine blk_alloc ?_ _)); exact BK237.out⟩, ⟨by repeat (first | (with_reducible first | exact HB.out | apply below_alloc | apply pw_below_drewN | apply below_drew1 | refine below_set ?_ GE237.out) | exact HB.out)⟩⟩
      · rw [if_neg c7] at H
        have c7b0 : decide (100 < (a1.size : Int)) = false := decide_eq_false c7
        have c7b1 : decide (100 < a1.size) = false := decide_eq_false (by omega)
        clear c7
        have H' := Aside0.mk H
        clear H
        have hcz9_0 : w4.cell? ⟨gb237, 0, none⟩ = some (.int .u64 a0_0) := (blk_cell BK237.out 0).trans rfl
        have hcz9_1 : w4.cell? ⟨gb237, 1, none⟩ = some (.int .i64 a0_1) := (blk_cell BK237.out 1).trans rfl
        have hcz9_2 : w4.cell? ⟨gb237, 2, none⟩ = some (.slice A0_2 l0_2.length c0_2) := (blk_cell BK237.out 2).trans rfl
        have hfz9_0 := blk_frozen BK237.out 0
        have hfz9_1 := blk_frozen BK237.out 1
        have hfz9_2 := blk_frozen BK237.out 2
        go_wp2
        go_meet
        case rel => exact ⟨_, (decide (a0_1 > 100)), (by first | rfl | (simp; done) | (simp [*]; done)), H', ⟨by first | omega | exact Nat.le_refl _⟩, ⟨by (with_reducible repeat (first | refine blk_drewN ?_ _ | refine blk_drew ?_ | refine blk_alloc ?_ _)); exact BK237.out⟩, ⟨by repeat (first | (with_reducible first | exact HB.out | apply below_alloc | apply pw_below_drewN | apply below_drew1 | refine below_set ?_ GE237.out) | exact HB.out)⟩⟩
  case rest =>
    clear HC3
    try clear p2
    try clear c4
    try clear c5
    try clear c5b0
    try clear c5b1
    try clear c7
    try clear c7b0
    try clear c7b1
    try clear hcz6_0
    try clear hcz6_1
    try clear hcz6_2
    try clear hcz8_0
    try clear hcz8_1
    try clear hcz8_2
    try clear hcz9_0
    try clear hcz9_1
    try clear hcz9_2
    try clear hfz6_0
    try clear hfz6_1
    try clear hfz6_2
    try clear hfz8_0
    try clear hfz8_1
    try clear hfz8_2
    try clear hfz9_0
    try clear hfz9_1
    try clear hfz9_2
    obtain ⟨kq, x26_2, rfl, HA, HJ2, BK237, HB⟩ := hcut
    cases kq with
    | zero => exact absurd HA.out (by simp [rillmeterlaw10_BloomTurns.j0])
    | succ kj2 =>
      have H := HA.out
      clear HA
      simp only [rillmeterlaw10_BloomTurns.j0] at H
      by_cases c10 : x26_2 = true
      · subst c10
        have H1 : ((rillmeterlaw10_awake.f kj2).bind fun t238 => (some t238)) = some r := by rw [if_pos rfl] at H; exact H
        clear H
        have H := H1
        clear H1
        replace H := Option.bind_eq_some_iff.mp H
        obtain ⟨t238, A110, H⟩ := H
        replace H : (some t238) = some r := H
        have A11 := Aside0.mk A110
        clear A110
        obtain rfl := Option.some.inj H
        go_wp2_with (first | ((with_reducible refine gate_callee (f := 12) rfl ?_); refine goesL_ (some 27) rfl rfl Try.func12 (by kernel_rfl) rfl #[] rfl (by (try simp only [List.map_toArray, List.map_cons, List.map_nil]); first | done | rfl | (simp only [List.length_drop, List.length_take]; rfl)) ?_; (with_reducible refine (rillmeterlaw10_awake.calls kj2  t238 _ A11.out).mono ?_); rintro e w12 ⟨rfl, hb⟩; refine ⟨_, rfl, ?_⟩; have n0_ := Aside0.mk (blk_below (g := gb237) (o := .cells #[.int .u64 a0_0, .int .i64 a0_1, .slice A0_2 l0_2.length c0_2] 25 (0, 0)) (by (with_reducible repeat (first | refine blk_drewN ?_ _ | refine blk_drew ?_ | refine blk_alloc ?_ _)); exact BK237.out) hb); have n1_ := Aside0.mk (below_step (by repeat (first | (with_reducible first | exact HB.out | apply below_alloc | apply pw_below_drewN | apply below_drew1 | refine below_set ?_ GE237.out) | exact HB.out)) hb); clear BK237; clear HB; have BK237 := n0_; have HB := n1_; clear n0_ n1_; (try clear hb); (try clear hb2); (try clear hk); (try clear hi)))
        go_ret
        exact ⟨by first | rfl | (simp [errW_none, errW_some] <;> rfl) | (simp [*, errW_none, errW_some] <;> rfl), by repeat (first | (with_reducible first | exact HB.out | apply below_alloc | apply pw_below_drewN | apply below_drew1 | refine below_set ?_ GE237.out) | exact HB.out)⟩
      · replace c10 := Bool.eq_false_iff.mpr c10
        subst c10
        have H1 : ((rillmeterlaw10_ref.f a0_0 a0_1 l0_2).bind fun bt239 => ((bloom_Add.f kj2 a0_0 a0_1 l0_2 a1).bind fun bt245 => ((bloom_Places.f kj2 a0_0 a0_1 l0_2 a1).bind fun t250 => (rillmeterlaw10_BloomTurns.l0 kj2 a1 t250 0 l0_2 (l0_2.length : Int) 0 a0_0 a0_1 l0_2 bt239.1 bt239.2.1 bt239.2.2 bt245.1 bt245.2.1 bt245.2.2)))) = some r := by rw [if_neg (show ¬ (false = true) by decide)] at H; exact H
        clear H
        have H := H1
        clear H1
        replace H := Option.bind_eq_some_iff.mp H
        obtain ⟨⟨t239, t240, t241⟩, A130, H⟩ := H
        replace H : ((bloom_Add.f kj2 a0_0 a0_1 l0_2 a1).bind fun bt245 => ((bloom_Places.f kj2 a0_0 a0_1 l0_2 a1).bind fun t250 => (rillmeterlaw10_BloomTurns.l0 kj2 a1 t250 0 l0_2 (l0_2.length : Int) 0 a0_0 a0_1 l0_2 t239 t240 t241 bt245.1 bt245.2.1 bt245.2.2))) = some r := H
        have A13 := Aside0.mk A130
        clear A130
        replace H := Option.bind_eq_some_iff.mp H
        obtain ⟨⟨t245, t246, t247⟩, A140, H⟩ := H
        replace H : ((bloom_Places.f kj2 a0_0 a0_1 l0_2 a1).bind fun t250 => (rillmeterlaw10_BloomTurns.l0 kj2 a1 t250 0 l0_2 (l0_2.length : Int) 0 a0_0 a0_1 l0_2 t239 t240 t241 t245 t246 t247)) = some r := H
        have A14 := Aside0.mk A140
        clear A140
        replace H := Option.bind_eq_some_iff.mp H
        obtain ⟨t250, A150, H⟩ := H
        replace H : (rillmeterlaw10_BloomTurns.l0 kj2 a1 t250 0 l0_2 (l0_2.length : Int) 0 a0_0 a0_1 l0_2 t239 t240 t241 t245 t246 t247) = some r := H
        have A15 := Aside0.mk A150
        clear A150
        have H' := Aside0.mk H
        clear H
        have hcz16_0 : wc.cell? ⟨gb237, 0, none⟩ = some (.int .u64 a0_0) := (blk_cell BK237.out 0).trans rfl
        have hcz16_1 : wc.cell? ⟨gb237, 1, none⟩ = some (.int .i64 a0_1) := (blk_cell BK237.out 1).trans rfl
        have hcz16_2 : wc.cell? ⟨gb237, 2, none⟩ = some (.slice A0_2 l0_2.length c0_2) := (blk_cell BK237.out 2).trans rfl
        have hfz16_0 := blk_frozen BK237.out 0
        have hfz16_1 := blk_frozen BK237.out 1
        have hfz16_2 := blk_frozen BK237.out 2
        try go_wp2_with (first | ((with_reducible refine gate_callee (f := 11) rfl ?_); refine goesL_ (some 29) rfl rfl Try.func11 (by kernel_rfl) rfl #[.agg #[.int .u64 a0_0, .int .i64 a0_1, .slice A0_2 l0_2.length c0_2]] rfl (by (try simp only [List.map_toArray, List.map_cons, List.map_nil]); first | done | rfl | (simp only [List.length_drop, List.length_take]; rfl)) ?_; (with_reducible refine (rillmeterlaw10_ref.calls a0_0 a0_1 (fun k_ => k_ < w.heap.size) _ _ l0_2 t239 t240 t241 _ ?side1 A13.out).mono ?_); (case side1 => exact Kd.V_mk HC0_2.out (Kd.F_below (Kd.C_F Kd.heap_bool HR0_2.out) (by repeat (first | (with_reducible first | exact HB.out | apply below_alloc | apply pw_below_drewN | apply below_drew1 | refine below_set ?_ GE237.out) | exact HB.out)))); rintro e w17 ⟨v242, rfl, ho0, hb⟩; refine ⟨_, rfl, ?_⟩; have n0_ := Aside0.mk (Kd.V_lower (Kd.V_mono (ok' := fun k_ => k_ ≠ gb237) ho0 (fun k_ hk_ => Or.elim hk_ (fun hs_ => fun e_ => Nat.not_le.2 hs_ (by rw [e_]; exact GW237.out)) (fun hn_ => (Kd.freshB (g := gb237) (o := .cells #[.int .u64 a0_0, .int .i64 a0_1, .slice A0_2 l0_2.length c0_2] 25 (0, 0)) (by (with_reducible repeat (first | refine blk_drewN ?_ _ | refine blk_drew ?_ | refine blk_alloc ?_ _)); exact BK237.out) k_ hn_)))) (below_size (by repeat (first | (with_reducible first | exact HB.out | apply below_alloc | apply pw_below_drewN | apply below_drew1 | refine below_set ?_ GE237.out) | exact HB.out)))); have n1_ := Aside0.mk (blk_below (g := gb237) (o := .cells #[.int .u64 a0_0, .int .i64 a0_1, .slice A0_2 l0_2.length c0_2] 25 (0, 0)) (by (with_reducible repeat (first | refine blk_drewN ?_ _ | refine blk_drew ?_ | refine blk_alloc ?_ _)); exact BK237.out) hb); have n2_ := Aside0.mk (below_step (by repeat (first | (with_reducible first | exact HB.out | apply below_alloc | apply pw_below_drewN | apply below_drew1 | refine below_set ?_ GE237.out) | exact HB.out)) hb); clear BK237; clear HB; have HO243 := n0_; have BK237 := n1_; have HB := n2_; clear n0_ n1_ n2_; (try clear hb); (try clear hb2); (try clear hk); (try clear hi); (try clear ho0)) | ((with_reducible refine gate_dst (N := 5) rfl ?_); (try (refine gate_guard (by rfl) ?_; dsimp only)); refine box_event ?hg (N := 5) ?hd (cs := #[.int .u64 0, .int .i64 0, .slice none 0 0]) (t := 30) ?hr ?_; (case hd => rfl); (case hg => rfl); (case hr => first | (go_simp; done) | (go_simp; rfl)); intro gb244 hg w18 hbox hb; have n0_ := Aside0.mk (Kd.V_below (Kd.V_elderB (by (with_reducible repeat (first | apply Kd.V_alloc | apply Kd.V_drewN | apply Kd.V_drew)); exact HO243.out) gb244 (Nat.le_of_eq hg.symm)) hb); have n1_ := Aside0.mk (blk_below (g := gb237) (o := .cells #[.int .u64 a0_0, .int .i64 a0_1, .slice A0_2 l0_2.length c0_2] 25 (0, 0)) (by (with_reducible repeat (first | refine blk_drewN ?_ _ | refine blk_drew ?_ | refine blk_alloc ?_ _)); exact BK237.out) hb); have n2_ := Aside0.mk (below_step (by repeat (first | (with_reducible first | exact HB.out | apply below_alloc | apply pw_below_drewN | apply below_drew1 | refine below_set ?_ GE237.out) | exact HB.out)) hb); have n3_ := Aside0.mk (hbox); have n4_ := Aside0.mk ((by rw [hg]; exact (below_size (by repeat (first | (with_reducible first | exact HB.out | apply below_alloc | apply pw_below_drewN | apply below_drew1 | refine below_set ?_ GE237.out) | exact HB.out))) : w.heap.size ≤ gb244)); have n5_ := Aside0.mk ((by rw [hg]; exact (below_size (by repeat (first | (with_reducible first | exact HB.out | apply below_alloc | apply pw_below_drewN | apply below_drew1 | refine below_set ?_ GE237.out) | exact HB.out))) : w.heap.size ≤ gb244)); have n6_ := Aside0.mk ((by rw [hg]; exact Nat.ne_of_lt (blk_lt (g := gb237) (o := .cells #[.int .u64 a0_0, .int .i64 a0_1, .slice A0_2 l0_2.length c0_2] 25 (0, 0)) (by (with_reducible repeat (first | refine blk_drewN ?_ _ | refine blk_drew ?_ | refine blk_alloc ?_ _)); exact BK237.out)) : gb237 ≠ gb244)); have n7_ := Aside0.mk ((by rw [hg]; exact Nat.ne_of_gt (blk_lt (g := gb237) (o := .cells #[.int .u64 a0_0, .int .i64 a0_1, .slice A0_2 l0_2.length c0_2] 25 (0, 0)) (by (with_reducible repeat (first | refine blk_drewN ?_ _ | refine blk_drew ?_ | refine blk_alloc ?_ _)); exact BK237.out)) : gb244 ≠ gb237)); clear HO243; clear BK237; clear HB; have HO243 := n0_; have BK237 := n1_; have HB := n2_; have BK244 := n3_; have GW244 := n4_; have GE244 := n5_; have NB237_244 := n6_; have NB244_237 := n7_; clear n0_ n1_ n2_ n3_ n4_ n5_ n6_ n7_; clear hb hbox hg; have hnb19 := NB244_237.out; have hnc19 := NB237_244.out; have hcz20_0 : w18.cell? ⟨gb244, 0, none⟩ = some (.int .u64 0) := (blk_cell BK244.out 0).trans rfl; have hcz20_1 : w18.cell? ⟨gb244, 1, none⟩ = some (.int .i64 0) := (blk_cell BK244.out 1).trans rfl; have hcz20_2 : w18.cell? ⟨gb244, 2, none⟩ = some (.slice none 0 0) := (blk_cell BK244.out 2).trans rfl; have hfz20_0 := blk_frozen BK244.out 0; have hfz20_1 := blk_frozen BK244.out 1; have hfz20_2 := blk_frozen BK244.out 2; obtain ⟨Ao21, co21, eo21⟩ := Kd.V_slice HO243.out; subst eo21))
        have n0_ : Aside0 (Kd.V Kd.bool 4 (((w18.setCell ⟨gb244, 0, none⟩ (.int .u64 t239)).setCell ⟨gb244, 1, none⟩ (.int .i64 t240)).setCell ⟨gb244, 2, none⟩ (.slice Ao21 t241.length co21)) w.heap.size (fun k_ => k_ ≠ gb237 ∧ k_ ≠ gb244) (.slice Ao21 t241.length co21) t241) := ⟨by (with_reducible repeat (first | apply Kd.V_alloc | apply Kd.V_drewN | apply Kd.V_drew)); exact Kd.V_mono (Kd.V_far (p := ⟨gb244, 2, none⟩) (Kd.V_far (p := ⟨gb244, 1, none⟩) (Kd.V_far (p := ⟨gb244, 0, none⟩) (Kd.V_mono HO243.out (fun k_ hk => (⟨hk, hk.2⟩ : _ ∧ k_ ≠ gb244))) (fun _ hk => hk.2) (.int .u64 t239)) (fun _ hk => hk.2) (.int .i64 t240)) (fun _ hk => hk.2) (.slice Ao21 t241.length co21)) (fun _ hk => ⟨hk.1.1, hk.1.2⟩)⟩
        have n1_ : Aside0 ((((w18.setCell ⟨gb244, 0, none⟩ (.int .u64 t239)).setCell ⟨gb244, 1, none⟩ (.int .i64 t240)).setCell ⟨gb244, 2, none⟩ (.slice Ao21 t241.length co21)).heap[gb237]? = some (.cells #[.int .u64 a0_0, .int .i64 a0_1, .slice A0_2 l0_2.length c0_2] 25 (0, 0))) := ⟨by (with_reducible repeat (first | refine blk_drewN ?_ _ | refine blk_drew ?_ | refine blk_alloc ?_ _)); refine blk_far ?_ NB237_244.out _; (with_reducible repeat (first | refine blk_drewN ?_ _ | refine blk_drew ?_ | refine blk_alloc ?_ _)); refine blk_far ?_ NB237_244.out _; (with_reducible repeat (first | refine blk_drewN ?_ _ | refine blk_drew ?_ | refine blk_alloc ?_ _)); refine blk_far ?_ NB237_244.out _; (with_reducible repeat (first | refine blk_drewN ?_ _ | refine blk_drew ?_ | refine blk_alloc ?_ _)); exact BK237.out⟩
        have n2_ : Aside0 ((((w18.setCell ⟨gb244, 0, none⟩ (.int .u64 t239)).setCell ⟨gb244, 1, none⟩ (.int .i64 t240)).setCell ⟨gb244, 2, none⟩ (.slice Ao21 t241.length co21)).heap[gb244]? = some (.cells #[.int .u64 t239, .int .i64 t240, .slice Ao21 t241.length co21] 30 (0, 0))) := ⟨by (with_reducible repeat (first | refine blk_drewN ?_ _ | refine blk_drew ?_ | refine blk_alloc ?_ _)); refine blk_put (cs := #[.int .u64 t239, .int .i64 t240, .slice none 0 0]) ?_ 2 _ rfl; (with_reducible repeat (first | refine blk_drewN ?_ _ | refine blk_drew ?_ | refine blk_alloc ?_ _)); refine blk_put (cs := #[.int .u64 t239, .int .i64 0, .slice none 0 0]) ?_ 1 _ rfl; (with_reducible repeat (first | refine blk_drewN ?_ _ | refine blk_drew ?_ | refine blk_alloc ?_ _)); refine blk_put (cs := #[.int .u64 0, .int .i64 0, .slice none 0 0]) ?_ 0 _ rfl; (with_reducible repeat (first | refine blk_drewN ?_ _ | refine blk_drew ?_ | refine blk_alloc ?_ _)); exact BK244.out⟩
        have n3_ : Aside0 (Below w.heap.size w (((w18.setCell ⟨gb244, 0, none⟩ (.int .u64 t239)).setCell ⟨gb244, 1, none⟩ (.int .i64 t240)).setCell ⟨gb244, 2, none⟩ (.slice Ao21 t241.length co21))) := ⟨by repeat (first | (with_reducible first | exact HB.out | apply below_alloc | apply pw_below_drewN | apply below_drew1 | refine below_set ?_ GE237.out | refine below_set ?_ GE244.out) | exact HB.out)⟩
        (try clear HO243)
        (try clear BK237)
        (try clear BK244)
        (try clear HB)
        generalize (((w18.setCell ⟨gb244, 0, none⟩ (.int .u64 t239)).setCell ⟨gb244, 1, none⟩ (.int .i64 t240)).setCell ⟨gb244, 2, none⟩ (.slice Ao21 t241.length co21)) = w22 at n0_ n1_ n2_ n3_ ⊢
        have HO243 := n0_
        have BK237 := n1_
        have BK244 := n2_
        have HB := n3_
        clear n0_ n1_ n2_ n3_
        have n0_ := Aside0.mk (Kd.V_drew HO243.out)
        have n1_ := Aside0.mk (blk_drew BK237.out)
        have n2_ := Aside0.mk (blk_drew BK244.out)
        have n3_ := Aside0.mk (below_drew1 HB.out)
        clear HO243
        clear BK237
        clear BK244
        clear HB
        have HO243 := n0_
        have BK237 := n1_
        have BK244 := n2_
        have HB := n3_
        clear n0_ n1_ n2_ n3_
        refine start_ (n := 9) (S := fun w' => w'.cell? ⟨gb237, 0, none⟩ = some (.int .u64 a0_0) ∧ w'.cell? ⟨gb237, 1, none⟩ = some (.int .i64 a0_1) ∧ w'.cell? ⟨gb237, 2, none⟩ = some (.slice A0_2 l0_2.length c0_2)) (ds := []) #[false, false, false, false, false, false, false, false, false] (by kernel_rfl) rfl rfl ⟨(blk_cell BK237.out 0).trans rfl, (blk_cell BK237.out 1).trans rfl, (blk_cell BK237.out 2).trans rfl⟩ (fun hHeld => ?_); refine with_tabW rillmeterlaw10_BloomTurns.tab4 rillmeterlaw10_BloomTurns.bits4 (fun HT_ HW_ => ?_)
        generalize w22.drew = w23 at HO243 BK237 BK244 HB hHeld ⊢
        refine pure_ (i := 1) (N := some 31) (v := ?_) (a' := ?_) #[false, true, false, false, false, false, false, false, false] rfl rfl (any_of HT_.out (by kernel_rfl)) (fun _ _ _ h => h) (Or.inl ⟨by rfl, ?_⟩) ?_ ?_
        rotate_left
        · intro w'
          go_simp
          with_reducible rfl
        rotate_left
        · simp only [Act.put, List.setIfInBounds_toArray, List.set_cons_zero, List.set_cons_succ, i64_w, i32_w]
          rfl
        refine pure_ (i := 4) (N := some 34) (v := ?_) (a' := ?_) #[false, true, false, false, true, false, false, false, false] rfl rfl (any_of HT_.out (by kernel_rfl)) (fun _ _ _ h => h) (Or.inl ⟨by rfl, ?_⟩) ?_ ?_
        rotate_left
        · intro w'
          go_simp
          with_reducible rfl
        rotate_left
        · simp only [Act.put, List.setIfInBounds_toArray, List.set_cons_zero, List.set_cons_succ, i64_w, i32_w]
          rfl
        refine take_ (i := 0) (N := some 30) (v := ?_) (a' := ?_) #[true, true, false, false, true, false, false, false, false] rfl rfl (take_ofW HT_.out HW_.out (by kernel_rfl)) (fun _ _ _ h => h) (Or.inl ⟨by rfl, ?_⟩) hHeld ?_ ?_
        rotate_left
        · rintro w' ⟨s0, s1, s2⟩
          go_simp
          with_reducible rfl
        rotate_left
        · simp only [Act.put, List.setIfInBounds_toArray, List.set_cons_zero, List.set_cons_succ, i64_w, i32_w]
          rfl
        refine take_ (i := 3) (N := some 33) (v := ?_) (a' := ?_) #[true, true, false, true, true, false, false, false, false] rfl rfl (take_ofW HT_.out HW_.out (by kernel_rfl)) (fun _ _ _ h => h) (Or.inl ⟨by rfl, ?_⟩) hHeld ?_ ?_
        rotate_left
        · rintro w' ⟨s0, s1, s2⟩
          go_simp
          with_reducible rfl
        rotate_left
        · simp only [Act.put, List.setIfInBounds_toArray, List.set_cons_zero, List.set_cons_succ, i64_w, i32_w]
          rfl
        refine join_ (σ := Value × Value × Nat) 2 #[true, true, true, true, true, true, true, false, false] (fun s_ => [(32, .agg #[.int .u64 t245, .int .i64 t246, s_.1]), (35, s_.2.1), (6, .pointer (some ⟨s_.2.2, 0, none⟩))]) (fun s_ w' => (w'.cell? ⟨gb237, 0, none⟩ = some (.int .u64 a0_0) ∧ w'.cell? ⟨gb237, 1, none⟩ = some (.int .i64 a0_1) ∧ w'.cell? ⟨gb237, 2, none⟩ = some (.slice A0_2 l0_2.length c0_2)) ∧ (Kd.V Kd.bool 4 w' w.heap.size (fun k_ => some k_ ≠ (s_.1 : Value).ownBlock ∧ some k_ ≠ (s_.2.1 : Value).ownBlock ∧ k_ ≠ gb237 ∧ k_ ≠ gb244 ∧ k_ ≠ s_.2.2) (.slice Ao21 t241.length co21) t241) ∧ (Kd.R Kd.bool 4 w' w.heap.size (fun _ => True) s_.1 t247) ∧ (Kd.R (Kd.int .i64) 3 w' w.heap.size (fun _ => True) s_.2.1 t250) ∧ (w'.heap[gb237]? = some (.cells #[.int .u64 a0_0, .int .i64 a0_1, .slice A0_2 l0_2.length c0_2] 25 (0, 0))) ∧ (w'.heap[gb244]? = some (.cells #[.int .u64 t239, .int .i64 t240, .slice Ao21 t241.length co21] 30 (0, 0))) ∧ (w'.heap[s_.2.2]? = some (.cells #[.int .u64 0, .int .i64 0, .slice none 0 0] 25 (0, 0))) ∧ (w.heap.size ≤ s_.2.2) ∧ (w.heap.size ≤ s_.2.2) ∧ (gb237 ≠ s_.2.2) ∧ (s_.2.2 ≠ gb237) ∧ (gb244 ≠ s_.2.2) ∧ (s_.2.2 ≠ gb244) ∧ (Below w.heap.size w w')) ?_ ?_
        rotate_left
        · intro hCont
          refine two_ (i := 2) (j := 6) (Ni := some 32) (Nj := some 6) #[true, true, true, true, true, false, false, false, false] #[true, true, false, true, true, false, true, false, false] rfl rfl rfl rfl (two_of HT_.out (by kernel_rfl)) (by decide) (by decide) (fun K hK => ?_) (fun K hK => ?_)
          · skip
            refine goes_ Try.func16 (by kernel_rfl) rfl #[.agg #[.int .u64 a0_0, .int .i64 a0_1, .slice A0_2 l0_2.length c0_2], .string a1] (by rfl) rfl rfl (by (try simp only [List.map_toArray, List.map_cons, List.map_nil]); first | done | rfl | (simp only [List.length_drop, List.length_take]; rfl)) ?_
            with_reducible refine (bloom_Add.calls kj2 a0_0 a0_1 _ _ l0_2 a1 t245 t246 t247 _ ?side1 ?side2 A14.out).mono ?_
            (case side1 => repeat (first | exact (Kd.C_below HR0_2.out HB.out) | (with_reducible refine Kd.C_alloc ?_ _) | (with_reducible refine Kd.C_drewN ?_ _) | (with_reducible refine Kd.C_drew ?_)))
            (case side2 => exact HC0_2.out)
            rintro e w24 ⟨v248, rfl, ho0, hb⟩
            refine ⟨_, rfl, ?_⟩
            have n0_ := Aside0.mk (Kd.V_elder' (by (with_reducible repeat (first | apply Kd.V_alloc | apply Kd.V_drewN | apply Kd.V_drew)); exact HO243.out) (Kd.R_base ho0) hb)
            have n1_ := Aside0.mk (Kd.R_lower ho0 (below_size (by repeat (first | (with_reducible first | exact HB.out | apply below_alloc | apply pw_below_drewN | apply below_drew1 | refine below_set ?_ GE237.out | refine below_set ?_ GE244.out) | exact HB.out))))
            have n2_ := Aside0.mk (blk_below (g := gb237) (o := .cells #[.int .u64 a0_0, .int .i64 a0_1, .slice A0_2 l0_2.length c0_2] 25 (0, 0)) (by (with_reducible repeat (first | refine blk_drewN ?_ _ | refine blk_drew ?_ | refine blk_alloc ?_ _)); exact BK237.out) hb)
            have n3_ := Aside0.mk (blk_below (g := gb244) (o := .cells #[.int .u64 t239, .int .i64 t240, .slice Ao21 t241.length co21] 30 (0, 0)) (by (with_reducible repeat (first | refine blk_drewN ?_ _ | refine blk_drew ?_ | refine blk_alloc ?_ _)); exact BK244.out) hb)
            have n4_ := Aside0.mk (below_step (by repeat (first | (with_reducible first | exact HB.out | apply below_alloc | apply pw_below_drewN | apply below_drew1 | refine below_set ?_ GE237.out | refine below_set ?_ GE244.out) | exact HB.out)) hb)
            clear HO243
            clear BK237
            clear BK244
            clear HB
            have HO243 := n0_
            have HO249 := n1_
            have BK237 := n2_
            have BK244 := n3_
            have HB := n4_
            clear n0_ n1_ n2_ n3_ n4_
            (try clear hb)
            (try clear hb2)
            (try clear hk)
            (try clear hi)
            (try clear ho0)
            refine hK.out _ _ ⟨(blk_cell BK237.out 0).trans rfl, (blk_cell BK237.out 1).trans rfl, (blk_cell BK237.out 2).trans rfl⟩ (fun hHeld => ?_)
            clear hK K
            refine norm_ (a' := ?_) ?_ ?_
            rotate_left
            · show Act.put _ (some 32) _ = _
              simp only [Act.put, List.setIfInBounds_toArray, List.set_cons_zero, List.set_cons_succ, i64_w, i32_w]
              rfl
            refine two_ (i := 5) (j := 6) (Ni := some 35) (Nj := some 6) #[true, true, true, true, true, true, false, false, false] #[true, true, true, true, true, false, true, false, false] rfl rfl rfl rfl (two_of HT_.out (by kernel_rfl)) (by decide) (by decide) (fun K hK => ?_) (fun K hK => ?_)
            · skip
              refine goes_ Try.func17 (by kernel_rfl) rfl #[.agg #[.int .u64 a0_0, .int .i64 a0_1, .slice A0_2 l0_2.length c0_2], .string a1] (by rfl) rfl rfl (by (try simp only [List.map_toArray, List.map_cons, List.map_nil]); first | done | rfl | (simp only [List.length_drop, List.length_take]; rfl)) ?_
              with_reducible refine (bloom_Places.calls kj2 a0_0 a0_1 _ _ l0_2 a1 t250 _ ?side1 ?side2 A15.out).mono ?_
              (case side1 => repeat (first | exact (Kd.C_below HR0_2.out HB.out) | (with_reducible refine Kd.C_alloc ?_ _) | (with_reducible refine Kd.C_drewN ?_ _) | (with_reducible refine Kd.C_drew ?_)))
              (case side2 => exact HC0_2.out)
              rintro e w25 ⟨v251, rfl, ho0, hb⟩
              refine ⟨_, rfl, ?_⟩
              have n0_ := Aside0.mk (Kd.V_elder' (by (with_reducible repeat (first | apply Kd.V_alloc | apply Kd.V_drewN | apply Kd.V_drew)); exact HO243.out) (Kd.R_base ho0) hb)
              have n1_ := Aside0.mk (Kd.R_below (by (with_reducible repeat (first | apply Kd.R_alloc | apply Kd.R_drewN | apply Kd.R_drew)); exact HO249.out) hb)
              have n2_ := Aside0.mk (Kd.R_lower ho0 (below_size (by repeat (first | (with_reducible first | exact HB.out | apply below_alloc | apply pw_below_drewN | apply below_drew1 | refine below_set ?_ GE237.out | refine below_set ?_ GE244.out) | exact HB.out))))
              have n3_ := Aside0.mk (blk_below (g := gb237) (o := .cells #[.int .u64 a0_0, .int .i64 a0_1, .slice A0_2 l0_2.length c0_2] 25 (0, 0)) (by (with_reducible repeat (first | refine blk_drewN ?_ _ | refine blk_drew ?_ | refine blk_alloc ?_ _)); exact BK237.out) hb)
              have n4_ := Aside0.mk (blk_below (g := gb244) (o := .cells #[.int .u64 t239, .int .i64 t240, .slice Ao21 t241.length co21] 30 (0, 0)) (by (with_reducible repeat (first | refine blk_drewN ?_ _ | refine blk_drew ?_ | refine blk_alloc ?_ _)); exact BK244.out) hb)
              have n5_ := Aside0.mk (below_step (by repeat (first | (with_reducible first | exact HB.out | apply below_alloc | apply pw_below_drewN | apply below_drew1 | refine below_set ?_ GE237.out | refine below_set ?_ GE244.out) | exact HB.out)) hb)
              clear HO243
              clear HO249
              clear BK237
              clear BK244
              clear HB
              have HO243 := n0_
              have HO249 := n1_
              have HO252 := n2_
              have BK237 := n3_
              have BK244 := n4_
              have HB := n5_
              clear n0_ n1_ n2_ n3_ n4_ n5_
              (try clear hb)
              (try clear hb2)
              (try clear hk)
              (try clear hi)
              (try clear ho0)
              refine hK.out _ _ ⟨(blk_cell BK237.out 0).trans rfl, (blk_cell BK237.out 1).trans rfl, (blk_cell BK237.out 2).trans rfl⟩ (fun hHeld => ?_)
              clear hK K
              refine norm_ (a' := ?_) ?_ ?_
              rotate_left
              · show Act.put _ (some 35) _ = _
                simp only [Act.put, List.setIfInBounds_toArray, List.set_cons_zero, List.set_cons_succ, i64_w, i32_w]
                rfl
              refine one_ (i := 6) (N := some 6) #[true, true, true, true, true, true, true, false, false] rfl rfl (one_of HT_.out (by kernel_rfl)) (by decide) (fun K hK => ?_)
              refine box_step ?hg (N := 6) ?hd (cs := #[.int .u64 0, .int .i64 0, .slice none 0 0]) (t := 25) ?hr ?_; (case hd => rfl); (case hg => rfl); (case hr => first | (go_simp; done) | (go_simp; rfl))
              intro gb253 hg w26 hbox hb
              have n0_ := Aside0.mk (Kd.V_below (Kd.V_elderB (by (with_reducible repeat (first | apply Kd.V_alloc | apply Kd.V_drewN | apply Kd.V_drew)); exact HO243.out) gb253 (Nat.le_of_eq hg.symm)) hb)
              have n1_ := Aside0.mk (Kd.R_below (by (with_reducible repeat (first | apply Kd.R_alloc | apply Kd.R_drewN | apply Kd.R_drew)); exact HO249.out) hb)
              have n2_ := Aside0.mk (Kd.R_below (by (with_reducible repeat (first | apply Kd.R_alloc | apply Kd.R_drewN | apply Kd.R_drew)); exact HO252.out) hb)
              have n3_ := Aside0.mk (blk_below (g := gb237) (o := .cells #[.int .u64 a0_0, .int .i64 a0_1, .slice A0_2 l0_2.length c0_2] 25 (0, 0)) (by (with_reducible repeat (first | refine blk_drewN ?_ _ | refine blk_drew ?_ | refine blk_alloc ?_ _)); exact BK237.out) hb)
              have n4_ := Aside0.mk (blk_below (g := gb244) (o := .cells #[.int .u64 t239, .int .i64 t240, .slice Ao21 t241.length co21] 30 (0, 0)) (by (with_reducible repeat (first | refine blk_drewN ?_ _ | refine blk_drew ?_ | refine blk_alloc ?_ _)); exact BK244.out) hb)
              have n5_ := Aside0.mk (below_step (by repeat (first | (with_reducible first | exact HB.out | apply below_alloc | apply pw_below_drewN | apply below_drew1 | refine below_set ?_ GE237.out | refine below_set ?_ GE244.out) | exact HB.out)) hb)
              have n6_ := Aside0.mk (hbox)
              have n7_ := Aside0.mk ((by rw [hg]; exact (below_size (by repeat (first | (with_reducible first | exact HB.out | apply below_alloc | apply pw_below_drewN | apply below_drew1 | refine below_set ?_ GE237.out | refine below_set ?_ GE244.out) | exact HB.out))) : w.heap.size ≤ gb253))
              have n8_ := Aside0.mk ((by rw [hg]; exact (below_size (by repeat (first | (with_reducible first | exact HB.out | apply below_alloc | apply pw_below_drewN | apply below_drew1 | refine below_set ?_ GE237.out | refine below_set ?_ GE244.out) | exact HB.out))) : w.heap.size ≤ gb253))
              have n9_ := Aside0.mk ((by rw [hg]; exact Nat.ne_of_lt (blk_lt (g := gb237) (o := .cells #[.int .u64 a0_0, .int .i64 a0_1, .slice A0_2 l0_2.length c0_2] 25 (0, 0)) (by (with_reducible repeat (first | refine blk_drewN ?_ _ | refine blk_drew ?_ | refine blk_alloc ?_ _)); exact BK237.out)) : gb237 ≠ gb253))
              have n10_ := Aside0.mk ((by rw [hg]; exact Nat.ne_of_gt (blk_lt (g := gb237) (o := .cells #[.int .u64 a0_0, .int .i64 a0_1, .slice A0_2 l0_2.length c0_2] 25 (0, 0)) (by (with_reducible repeat (first | refine blk_drewN ?_ _ | refine blk_drew ?_ | refine blk_alloc ?_ _)); exact BK237.out)) : gb253 ≠ gb237))
              have n11_ := Aside0.mk ((by rw [hg]; exact Nat.ne_of_lt (blk_lt (g := gb244) (o := .cells #[.int .u64 t239, .int .i64 t240, .slice Ao21 t241.length co21] 30 (0, 0)) (by (with_reducible repeat (first | refine blk_drewN ?_ _ | refine blk_drew ?_ | refine blk_alloc ?_ _)); exact BK244.out)) : gb244 ≠ gb253))
              have n12_ := Aside0.mk ((by rw [hg]; exact Nat.ne_of_gt (blk_lt (g := gb244) (o := .cells #[.int .u64 t239, .int .i64 t240, .slice Ao21 t241.length co21] 30 (0, 0)) (by (with_reducible repeat (first | refine blk_drewN ?_ _ | refine blk_drew ?_ | refine blk_alloc ?_ _)); exact BK244.out)) : gb253 ≠ gb244))
              clear HO243
              clear HO249
              clear HO252
              clear BK237
              clear BK244
              clear HB
              have HO243 := n0_
              have HO249 := n1_
              have HO252 := n2_
              have BK237 := n3_
              have BK244 := n4_
              have HB := n5_
              have BK253 := n6_
              have GW253 := n7_
              have GE253 := n8_
              have NB237_253 := n9_
              have NB253_237 := n10_
              have NB244_253 := n11_
              have NB253_244 := n12_
              clear n0_ n1_ n2_ n3_ n4_ n5_ n6_ n7_ n8_ n9_ n10_ n11_ n12_
              clear hb hbox hg
              refine hK.out _ _ ⟨(blk_cell BK237.out 0).trans rfl, (blk_cell BK237.out 1).trans rfl, (blk_cell BK237.out 2).trans rfl⟩ (fun hHeld => ?_)
              clear hK K
              refine norm_ (a' := ?_) ?_ ?_
              rotate_left
              · show Act.put _ (some 6) _ = _
                simp only [Act.put, List.setIfInBounds_toArray, List.set_cons_zero, List.set_cons_succ, i64_w, i32_w]
                rfl
              exact norm_ (by simp only [putAll, Act.put, List.setIfInBounds_toArray, List.set_cons_zero, List.set_cons_succ]) (hCont (v248, v251, gb253) _ ⟨hHeld, (by (with_reducible repeat (first | apply Kd.V_alloc | apply Kd.V_drewN | apply Kd.V_drew)); exact Kd.V_mono HO243.out (fun _ hk => ⟨hk.1.1.2, ⟨hk.1.2, ⟨hk.1.1.1.1, ⟨hk.1.1.1.2, hk.2⟩⟩⟩⟩)), (by (with_reducible repeat (first | apply Kd.R_alloc | apply Kd.R_drewN | apply Kd.R_drew)); exact HO249.out), (by (with_reducible repeat (first | apply Kd.R_alloc | apply Kd.R_drewN | apply Kd.R_drew)); exact HO252.out), (by (with_reducible repeat (first | refine blk_drewN ?_ _ | refine blk_drew ?_ | refine blk_alloc ?_ _)); exact BK237.out), (by (with_reducible repeat (first | refine blk_drewN ?_ _ | refine blk_drew ?_ | refine blk_alloc ?_ _)); exact BK244.out), (by (with_reducible repeat (first | refine blk_drewN ?_ _ | refine blk_drew ?_ | refine blk_alloc ?_ _)); exact BK253.out), GW253.out, GE253.out, NB237_253.out, NB253_237.out, NB244_253.out, NB253_244.out, (by repeat (first | (with_reducible first | exact HB.out | apply below_alloc | apply pw_below_drewN | apply below_drew1 | refine below_set ?_ GE237.out | refine below_set ?_ GE244.out | refine below_set ?_ GE253.out) | exact HB.out))⟩)
            · skip
              refine box_step ?hg (N := 6) ?hd (cs := #[.int .u64 0, .int .i64 0, .slice none 0 0]) (t := 25) ?hr ?_; (case hd => rfl); (case hg => rfl); (case hr => first | (go_simp; done) | (go_simp; rfl))
              intro gb253 hg w25 hbox hb
              have n0_ := Aside0.mk (Kd.V_below (Kd.V_elderB (by (with_reducible repeat (first | apply Kd.V_alloc | apply Kd.V_drewN | apply Kd.V_drew)); exact HO243.out) gb253 (Nat.le_of_eq hg.symm)) hb)
              have n1_ := Aside0.mk (Kd.R_below (by (with_reducible repeat (first | apply Kd.R_alloc | apply Kd.R_drewN | apply Kd.R_drew)); exact HO249.out) hb)
              have n2_ := Aside0.mk (blk_below (g := gb237) (o := .cells #[.int .u64 a0_0, .int .i64 a0_1, .slice A0_2 l0_2.length c0_2] 25 (0, 0)) (by (with_reducible repeat (first | refine blk_drewN ?_ _ | refine blk_drew ?_ | refine blk_alloc ?_ _)); exact BK237.out) hb)
              have n3_ := Aside0.mk (blk_below (g := gb244) (o := .cells #[.int .u64 t239, .int .i64 t240, .slice Ao21 t241.length co21] 30 (0, 0)) (by (with_reducible repeat (first | refine blk_drewN ?_ _ | refine blk_drew ?_ | refine blk_alloc ?_ _)); exact BK244.out) hb)
              have n4_ := Aside0.mk (below_step (by repeat (first | (with_reducible first | exact HB.out | apply below_alloc | apply pw_below_drewN | apply below_drew1 | refine below_set ?_ GE237.out | refine below_set ?_ GE244.out) | exact HB.out)) hb)
              have n5_ := Aside0.mk (hbox)
              have n6_ := Aside0.mk ((by rw [hg]; exact (below_size (by repeat (first | (with_reducible first | exact HB.out | apply below_alloc | apply pw_below_drewN | apply below_drew1 | refine below_set ?_ GE237.out | refine below_set ?_ GE244.out) | exact HB.out))) : w.heap.size ≤ gb253))
              have n7_ := Aside0.mk ((by rw [hg]; exact (below_size (by repeat (first | (with_reducible first | exact HB.out | apply below_alloc | apply pw_below_drewN | apply below_drew1 | refine below_set ?_ GE237.out | refine below_set ?_ GE244.out) | exact HB.out))) : w.heap.size ≤ gb253))
              have n8_ := Aside0.mk ((by rw [hg]; exact Nat.ne_of_lt (blk_lt (g := gb237) (o := .cells #[.int .u64 a0_0, .int .i64 a0_1, .slice A0_2 l0_2.length c0_2] 25 (0, 0)) (by (with_reducible repeat (first | refine blk_drewN ?_ _ | refine blk_drew ?_ | refine blk_alloc ?_ _)); exact BK237.out)) : gb237 ≠ gb253))
              have n9_ := Aside0.mk ((by rw [hg]; exact Nat.ne_of_gt (blk_lt (g := gb237) (o := .cells #[.int .u64 a0_0, .int .i64 a0_1, .slice A0_2 l0_2.length c0_2] 25 (0, 0)) (by (with_reducible repeat (first | refine blk_drewN ?_ _ | refine blk_drew ?_ | refine blk_alloc ?_ _)); exact BK237.out)) : gb253 ≠ gb237))
              have n10_ := Aside0.mk ((by rw [hg]; exact Nat.ne_of_lt (blk_lt (g := gb244) (o := .cells #[.int .u64 t239, .int .i64 t240, .slice Ao21 t241.length co21] 30 (0, 0)) (by (with_reducible repeat (first | refine blk_drewN ?_ _ | refine blk_drew ?_ | refine blk_alloc ?_ _)); exact BK244.out)) : gb244 ≠ gb253))
              have n11_ := Aside0.mk ((by rw [hg]; exact Nat.ne_of_gt (blk_lt (g := gb244) (o := .cells #[.int .u64 t239, .int .i64 t240, .slice Ao21 t241.length co21] 30 (0, 0)) (by (with_reducible repeat (first | refine blk_drewN ?_ _ | refine blk_drew ?_ | refine blk_alloc ?_ _)); exact BK244.out)) : gb253 ≠ gb244))
              clear HO243
              clear HO249
              clear BK237
              clear BK244
              clear HB
              have HO243 := n0_
              have HO249 := n1_
              have BK237 := n2_
              have BK244 := n3_
              have HB := n4_
              have BK253 := n5_
              have GW253 := n6_
              have GE253 := n7_
              have NB237_253 := n8_
              have NB253_237 := n9_
              have NB244_253 := n10_
              have NB253_244 := n11_
              clear n0_ n1_ n2_ n3_ n4_ n5_ n6_ n7_ n8_ n9_ n10_ n11_
              clear hb hbox hg
              refine hK.out _ _ ⟨(blk_cell BK237.out 0).trans rfl, (blk_cell BK237.out 1).trans rfl, (blk_cell BK237.out 2).trans rfl⟩ (fun hHeld => ?_)
              clear hK K
              refine norm_ (a' := ?_) ?_ ?_
              rotate_left
              · show Act.put _ (some 6) _ = _
                simp only [Act.put, List.setIfInBounds_toArray, List.set_cons_zero, List.set_cons_succ, i64_w, i32_w]
                rfl
              refine one_ (i := 5) (N := some 35) #[true, true, true, true, true, true, true, false, false] rfl rfl (one_of HT_.out (by kernel_rfl)) (by decide) (fun K hK => ?_)
              refine goes_ Try.func17 (by kernel_rfl) rfl #[.agg #[.int .u64 a0_0, .int .i64 a0_1, .slice A0_2 l0_2.length c0_2], .string a1] (by rfl) rfl rfl (by (try simp only [List.map_toArray, List.map_cons, List.map_nil]); first | done | rfl | (simp only [List.length_drop, List.length_take]; rfl)) ?_
              with_reducible refine (bloom_Places.calls kj2 a0_0 a0_1 _ _ l0_2 a1 t250 _ ?side1 ?side2 A15.out).mono ?_
              (case side1 => repeat (first | exact (Kd.C_below HR0_2.out HB.out) | (with_reducible refine Kd.C_alloc ?_ _) | (with_reducible refine Kd.C_drewN ?_ _) | (with_reducible refine Kd.C_drew ?_)))
              (case side2 => exact HC0_2.out)
              rintro e w26 ⟨v251, rfl, ho0, hb⟩
              refine ⟨_, rfl, ?_⟩
              have n0_ := Aside0.mk (Kd.V_elder' (by (with_reducible repeat (first | apply Kd.V_alloc | apply Kd.V_drewN | apply Kd.V_drew)); exact HO243.out) (Kd.R_base ho0) hb)
              have n1_ := Aside0.mk (Kd.R_below (by (with_reducible repeat (first | apply Kd.R_alloc | apply Kd.R_drewN | apply Kd.R_drew)); exact HO249.out) hb)
              have n2_ := Aside0.mk (Kd.R_lower ho0 (below_size (by repeat (first | (with_reducible first | exact HB.out | apply below_alloc | apply pw_below_drewN | apply below_drew1 | refine below_set ?_ GE237.out | refine below_set ?_ GE244.out | refine below_set ?_ GE253.out) | exact HB.out))))
              have n3_ := Aside0.mk (blk_below (g := gb237) (o := .cells #[.int .u64 a0_0, .int .i64 a0_1, .slice A0_2 l0_2.length c0_2] 25 (0, 0)) (by (with_reducible repeat (first | refine blk_drewN ?_ _ | refine blk_drew ?_ | refine blk_alloc ?_ _)); exact BK237.out) hb)
              have n4_ := Aside0.mk (blk_below (g := gb244) (o := .cells #[.int .u64 t239, .int .i64 t240, .slice Ao21 t241.length co21] 30 (0, 0)) (by (with_reducible repeat (first | refine blk_drewN ?_ _ | refine blk_drew ?_ | refine blk_alloc ?_ _)); exact BK244.out) hb)
              have n5_ := Aside0.mk (blk_below (g := gb253) (o := .cells #[.int .u64 0, .int .i64 0, .slice none 0 0] 25 (0, 0)) (by (with_reducible repeat (first | refine blk_drewN ?_ _ | refine blk_drew ?_ | refine blk_alloc ?_ _)); exact BK253.out) hb)
              have n6_ := Aside0.mk (below_step (by repeat (first | (with_reducible first | exact HB.out | apply below_alloc | apply pw_below_drewN | apply below_drew1 | refine below_set ?_ GE237.out | refine below_set ?_ GE244.out | refine below_set ?_ GE253.out) | exact HB.out)) hb)
              clear HO243
              clear HO249
              clear BK237
              clear BK244
              clear BK253
              clear HB
              have HO243 := n0_
              have HO249 := n1_
              have HO252 := n2_
              have BK237 := n3_
              have BK244 := n4_
              have BK253 := n5_
              have HB := n6_
              clear n0_ n1_ n2_ n3_ n4_ n5_ n6_
              (try clear hb)
              (try clear hb2)
              (try clear hk)
              (try clear hi)
              (try clear ho0)
              refine hK.out _ _ ⟨(blk_cell BK237.out 0).trans rfl, (blk_cell BK237.out 1).trans rfl, (blk_cell BK237.out 2).trans rfl⟩ (fun hHeld => ?_)
              clear hK K
              refine norm_ (a' := ?_) ?_ ?_
              rotate_left
              · show Act.put _ (some 35) _ = _
                simp only [Act.put, List.setIfInBounds_toArray, List.set_cons_zero, List.set_cons_succ, i64_w, i32_w]
                rfl
              exact norm_ (by simp only [putAll, Act.put, List.setIfInBounds_toArray, List.set_cons_zero, List.set_cons_succ]) (hCont (v248, v251, gb253) _ ⟨hHeld, (by (with_reducible repeat (first | apply Kd.V_alloc | apply Kd.V_drewN | apply Kd.V_drew)); exact Kd.V_mono HO243.out (fun _ hk => ⟨hk.1.1.2, ⟨hk.2, ⟨hk.1.1.1.1, ⟨hk.1.1.1.2, hk.1.2⟩⟩⟩⟩)), (by (with_reducible repeat (first | apply Kd.R_alloc | apply Kd.R_drewN | apply Kd.R_drew)); exact HO249.out), (by (with_reducible repeat (first | apply Kd.R_alloc | apply Kd.R_drewN | apply Kd.R_drew)); exact HO252.out), (by (with_reducible repeat (first | refine blk_drewN ?_ _ | refine blk_drew ?_ | refine blk_alloc ?_ _)); exact BK237.out), (by (with_reducible repeat (first | refine blk_drewN ?_ _ | refine blk_drew ?_ | refine blk_alloc ?_ _)); exact BK244.out), (by (with_reducible repeat (first | refine blk_drewN ?_ _ | refine blk_drew ?_ | refine blk_alloc ?_ _)); exact BK253.out), GW253.out, GE253.out, NB237_253.out, NB253_237.out, NB244_253.out, NB253_244.out, (by repeat (first | (with_reducible first | exact HB.out | apply below_alloc | apply pw_below_drewN | apply below_drew1 | refine below_set ?_ GE237.out | refine below_set ?_ GE244.out | refine below_set ?_ GE253.out) | exact HB.out))⟩)
          · skip
            refine box_step ?hg (N := 6) ?hd (cs := #[.int .u64 0, .int .i64 0, .slice none 0 0]) (t := 25) ?hr ?_; (case hd => rfl); (case hg => rfl); (case hr => first | (go_simp; done) | (go_simp; rfl))
            intro gb253 hg w24 hbox hb
            have n0_ := Aside0.mk (Kd.V_below (Kd.V_elderB (by (with_reducible repeat (first | apply Kd.V_alloc | apply Kd.V_drewN | apply Kd.V_drew)); exact HO243.out) gb253 (Nat.le_of_eq hg.symm)) hb)
            have n1_ := Aside0.mk (blk_below (g := gb237) (o := .cells #[.int .u64 a0_0, .int .i64 a0_1, .slice A0_2 l0_2.length c0_2] 25 (0, 0)) (by (with_reducible repeat (first | refine blk_drewN ?_ _ | refine blk_drew ?_ | refine blk_alloc ?_ _)); exact BK237.out) hb)
            have n2_ := Aside0.mk (blk_below (g := gb244) (o := .cells #[.int .u64 t239, .int .i64 t240, .slice Ao21 t241.length co21] 30 (0, 0)) (by (with_reducible repeat (first | refine blk_drewN ?_ _ | refine blk_drew ?_ | refine blk_alloc ?_ _)); exact BK244.out) hb)
            have n3_ := Aside0.mk (below_step (by repeat (first | (with_reducible first | exact HB.out | apply below_alloc | apply pw_below_drewN | apply below_drew1 | refine below_set ?_ GE237.out | refine below_set ?_ GE244.out) | exact HB.out)) hb)
            have n4_ := Aside0.mk (hbox)
            have n5_ := Aside0.mk ((by rw [hg]; exact (below_size (by repeat (first | (with_reducible first | exact HB.out | apply below_alloc | apply pw_below_drewN | apply below_drew1 | refine below_set ?_ GE237.out | refine below_set ?_ GE244.out) | exact HB.out))) : w.heap.size ≤ gb253))
            have n6_ := Aside0.mk ((by rw [hg]; exact (below_size (by repeat (first | (with_reducible first | exact HB.out | apply below_alloc | apply pw_below_drewN | apply below_drew1 | refine below_set ?_ GE237.out | refine below_set ?_ GE244.out) | exact HB.out))) : w.heap.size ≤ gb253))
            have n7_ := Aside0.mk ((by rw [hg]; exact Nat.ne_of_lt (blk_lt (g := gb237) (o := .cells #[.int .u64 a0_0, .int .i64 a0_1, .slice A0_2 l0_2.length c0_2] 25 (0, 0)) (by (with_reducible repeat (first | refine blk_drewN ?_ _ | refine blk_drew ?_ | refine blk_alloc ?_ _)); exact BK237.out)) : gb237 ≠ gb253))
            have n8_ := Aside0.mk ((by rw [hg]; exact Nat.ne_of_gt (blk_lt (g := gb237) (o := .cells #[.int .u64 a0_0, .int .i64 a0_1, .slice A0_2 l0_2.length c0_2] 25 (0, 0)) (by (with_reducible repeat (first | refine blk_drewN ?_ _ | refine blk_drew ?_ | refine blk_alloc ?_ _)); exact BK237.out)) : gb253 ≠ gb237))
            have n9_ := Aside0.mk ((by rw [hg]; exact Nat.ne_of_lt (blk_lt (g := gb244) (o := .cells #[.int .u64 t239, .int .i64 t240, .slice Ao21 t241.length co21] 30 (0, 0)) (by (with_reducible repeat (first | refine blk_drewN ?_ _ | refine blk_drew ?_ | refine blk_alloc ?_ _)); exact BK244.out)) : gb244 ≠ gb253))
            have n10_ := Aside0.mk ((by rw [hg]; exact Nat.ne_of_gt (blk_lt (g := gb244) (o := .cells #[.int .u64 t239, .int .i64 t240, .slice Ao21 t241.length co21] 30 (0, 0)) (by (with_reducible repeat (first | refine blk_drewN ?_ _ | refine blk_drew ?_ | refine blk_alloc ?_ _)); exact BK244.out)) : gb253 ≠ gb244))
            clear HO243
            clear BK237
            clear BK244
            clear HB
            have HO243 := n0_
            have BK237 := n1_
            have BK244 := n2_
            have HB := n3_
            have BK253 := n4_
            have GW253 := n5_
            have GE253 := n6_
            have NB237_253 := n7_
            have NB253_237 := n8_
            have NB244_253 := n9_
            have NB253_244 := n10_
            clear n0_ n1_ n2_ n3_ n4_ n5_ n6_ n7_ n8_ n9_ n10_
            clear hb hbox hg
            refine hK.out _ _ ⟨(blk_cell BK237.out 0).trans rfl, (blk_cell BK237.out 1).trans rfl, (blk_cell BK237.out 2).trans rfl⟩ (fun hHeld => ?_)
            clear hK K
            refine norm_ (a' := ?_) ?_ ?_
            rotate_left
            · show Act.put _ (some 6) _ = _
              simp only [Act.put, List.setIfInBounds_toArray, List.set_cons_zero, List.set_cons_succ, i64_w, i32_w]
              rfl
            refine one_ (i := 2) (N := some 32) #[true, true, true, true, true, false, true, false, false] rfl rfl (one_of HT_.out (by kernel_rfl)) (by decide) (fun K hK => ?_)
            refine goes_ Try.func16 (by kernel_rfl) rfl #[.agg #[.int .u64 a0_0, .int .i64 a0_1, .slice A0_2 l0_2.length c0_2], .string a1] (by rfl) rfl rfl (by (try simp only [List.map_toArray, List.map_cons, List.map_nil]); first | done | rfl | (simp only [List.length_drop, List.length_take]; rfl)) ?_
            with_reducible refine (bloom_Add.calls kj2 a0_0 a0_1 _ _ l0_2 a1 t245 t246 t247 _ ?side1 ?side2 A14.out).mono ?_
            (case side1 => repeat (first | exact (Kd.C_below HR0_2.out HB.out) | (with_reducible refine Kd.C_alloc ?_ _) | (with_reducible refine Kd.C_drewN ?_ _) | (with_reducible refine Kd.C_drew ?_)))
            (case side2 => exact HC0_2.out)
            rintro e w25 ⟨v248, rfl, ho0, hb⟩
            refine ⟨_, rfl, ?_⟩
            have n0_ := Aside0.mk (Kd.V_elder' (by (with_reducible repeat (first | apply Kd.V_alloc | apply Kd.V_drewN | apply Kd.V_drew)); exact HO243.out) (Kd.R_base ho0) hb)
            have n1_ := Aside0.mk (Kd.R_lower ho0 (below_size (by repeat (first | (with_reducible first | exact HB.out | apply below_alloc | apply pw_below_drewN | apply below_drew1 | refine below_set ?_ GE237.out | refine below_set ?_ GE244.out | refine below_set ?_ GE253.out) | exact HB.out))))
            have n2_ := Aside0.mk (blk_below (g := gb237) (o := .cells #[.int .u64 a0_0, .int .i64 a0_1, .slice A0_2 l0_2.length c0_2] 25 (0, 0)) (by (with_reducible repeat (first | refine blk_drewN ?_ _ | refine blk_drew ?_ | refine blk_alloc ?_ _)); exact BK237.out) hb)
            have n3_ := Aside0.mk (blk_below (g := gb244) (o := .cells #[.int .u64 t239, .int .i64 t240, .slice Ao21 t241.length co21] 30 (0, 0)) (by (with_reducible repeat (first | refine blk_drewN ?_ _ | refine blk_drew ?_ | refine blk_alloc ?_ _)); exact BK244.out) hb)
            have n4_ := Aside0.mk (blk_below (g := gb253) (o := .cells #[.int .u64 0, .int .i64 0, .slice none 0 0] 25 (0, 0)) (by (with_reducible repeat (first | refine blk_drewN ?_ _ | refine blk_drew ?_ | refine blk_alloc ?_ _)); exact BK253.out) hb)
            have n5_ := Aside0.mk (below_step (by repeat (first | (with_reducible first | exact HB.out | apply below_alloc | apply pw_below_drewN | apply below_drew1 | refine below_set ?_ GE237.out | refine below_set ?_ GE244.out | refine below_set ?_ GE253.out) | exact HB.out)) hb)
            clear HO243
            clear BK237
            clear BK244
            clear BK253
            clear HB
            have HO243 := n0_
            have HO249 := n1_
            have BK237 := n2_
            have BK244 := n3_
            have BK253 := n4_
            have HB := n5_
            clear n0_ n1_ n2_ n3_ n4_ n5_
            (try clear hb)
            (try clear hb2)
            (try clear hk)
            (try clear hi)
            (try clear ho0)
            refine hK.out _ _ ⟨(blk_cell BK237.out 0).trans rfl, (blk_cell BK237.out 1).trans rfl, (blk_cell BK237.out 2).trans rfl⟩ (fun hHeld => ?_)
            clear hK K
            refine norm_ (a' := ?_) ?_ ?_
            rotate_left
            · show Act.put _ (some 32) _ = _
              simp only [Act.put, List.setIfInBounds_toArray, List.set_cons_zero, List.set_cons_succ, i64_w, i32_w]
              rfl
            refine one_ (i := 5) (N := some 35) #[true, true, true, true, true, true, true, false, false] rfl rfl (one_of HT_.out (by kernel_rfl)) (by decide) (fun K hK => ?_)
            refine goes_ Try.func17 (by kernel_rfl) rfl #[.agg #[.int .u64 a0_0, .int .i64 a0_1, .slice A0_2 l0_2.length c0_2], .string a1] (by rfl) rfl rfl (by (try simp only [List.map_toArray, List.map_cons, List.map_nil]); first | done | rfl | (simp only [List.length_drop, List.length_take]; rfl)) ?_
            with_reducible refine (bloom_Places.calls kj2 a0_0 a0_1 _ _ l0_2 a1 t250 _ ?side1 ?side2 A15.out).mono ?_
            (case side1 => repeat (first | exact (Kd.C_below HR0_2.out HB.out) | (with_reducible refine Kd.C_alloc ?_ _) | (with_reducible refine Kd.C_drewN ?_ _) | (with_reducible refine Kd.C_drew ?_)))
            (case side2 => exact HC0_2.out)
            rintro e w26 ⟨v251, rfl, ho0, hb⟩
            refine ⟨_, rfl, ?_⟩
            have n0_ := Aside0.mk (Kd.V_elder' (by (with_reducible repeat (first | apply Kd.V_alloc | apply Kd.V_drewN | apply Kd.V_drew)); exact HO243.out) (Kd.R_base ho0) hb)
            have n1_ := Aside0.mk (Kd.R_below (by (with_reducible repeat (first | apply Kd.R_alloc | apply Kd.R_drewN | apply Kd.R_drew)); exact HO249.out) hb)
            have n2_ := Aside0.mk (Kd.R_lower ho0 (below_size (by repeat (first | (with_reducible first | exact HB.out | apply below_alloc | apply pw_below_drewN | apply below_drew1 | refine below_set ?_ GE237.out | refine below_set ?_ GE244.out | refine below_set ?_ GE253.out) | exact HB.out))))
            have n3_ := Aside0.mk (blk_below (g := gb237) (o := .cells #[.int .u64 a0_0, .int .i64 a0_1, .slice A0_2 l0_2.length c0_2] 25 (0, 0)) (by (with_reducible repeat (first | refine blk_drewN ?_ _ | refine blk_drew ?_ | refine blk_alloc ?_ _)); exact BK237.out) hb)
            have n4_ := Aside0.mk (blk_below (g := gb244) (o := .cells #[.int .u64 t239, .int .i64 t240, .slice Ao21 t241.length co21] 30 (0, 0)) (by (with_reducible repeat (first | refine blk_drewN ?_ _ | refine blk_drew ?_ | refine blk_alloc ?_ _)); exact BK244.out) hb)
            have n5_ := Aside0.mk (blk_below (g := gb253) (o := .cells #[.int .u64 0, .int .i64 0, .slice none 0 0] 25 (0, 0)) (by (with_reducible repeat (first | refine blk_drewN ?_ _ | refine blk_drew ?_ | refine blk_alloc ?_ _)); exact BK253.out) hb)
            have n6_ := Aside0.mk (below_step (by repeat (first | (with_reducible first | exact HB.out | apply below_alloc | apply pw_below_drewN | apply below_drew1 | refine below_set ?_ GE237.out | refine below_set ?_ GE244.out | refine below_set ?_ GE253.out) | exact HB.out)) hb)
            clear HO243
            clear HO249
            clear BK237
            clear BK244
            clear BK253
            clear HB
            have HO243 := n0_
            have HO249 := n1_
            have HO252 := n2_
            have BK237 := n3_
            have BK244 := n4_
            have BK253 := n5_
            have HB := n6_
            clear n0_ n1_ n2_ n3_ n4_ n5_ n6_
            (try clear hb)
            (try clear hb2)
            (try clear hk)
            (try clear hi)
            (try clear ho0)
            refine hK.out _ _ ⟨(blk_cell BK237.out 0).trans rfl, (blk_cell BK237.out 1).trans rfl, (blk_cell BK237.out 2).trans rfl⟩ (fun hHeld => ?_)
            clear hK K
            refine norm_ (a' := ?_) ?_ ?_
            rotate_left
            · show Act.put _ (some 35) _ = _
              simp only [Act.put, List.setIfInBounds_toArray, List.set_cons_zero, List.set_cons_succ, i64_w, i32_w]
              rfl
            exact norm_ (by simp only [putAll, Act.put, List.setIfInBounds_toArray, List.set_cons_zero, List.set_cons_succ]) (hCont (v248, v251, gb253) _ ⟨hHeld, (by (with_reducible repeat (first | apply Kd.V_alloc | apply Kd.V_drewN | apply Kd.V_drew)); exact Kd.V_mono HO243.out (fun _ hk => ⟨hk.1.2, ⟨hk.2, ⟨hk.1.1.1.1, ⟨hk.1.1.1.2, hk.1.1.2⟩⟩⟩⟩)), (by (with_reducible repeat (first | apply Kd.R_alloc | apply Kd.R_drewN | apply Kd.R_drew)); exact HO249.out), (by (with_reducible repeat (first | apply Kd.R_alloc | apply Kd.R_drewN | apply Kd.R_drew)); exact HO252.out), (by (with_reducible repeat (first | refine blk_drewN ?_ _ | refine blk_drew ?_ | refine blk_alloc ?_ _)); exact BK237.out), (by (with_reducible repeat (first | refine blk_drewN ?_ _ | refine blk_drew ?_ | refine blk_alloc ?_ _)); exact BK244.out), (by (with_reducible repeat (first | refine blk_drewN ?_ _ | refine blk_drew ?_ | refine blk_alloc ?_ _)); exact BK253.out), GW253.out, GE253.out, NB237_253.out, NB253_237.out, NB244_253.out, NB253_244.out, (by repeat (first | (with_reducible first | exact HB.out | apply below_alloc | apply pw_below_drewN | apply below_drew1 | refine below_set ?_ GE237.out | refine below_set ?_ GE244.out | refine below_set ?_ GE253.out) | exact HB.out))⟩)
        rintro ⟨v248, v251, gb253⟩ w27 ⟨hS_, h0_, h1_, h2_, h3_, h4_, h5_, h6_, h7_, h8_, h9_, h10_, h11_, h12_⟩
        have n0_ : Aside0 (Kd.V Kd.bool 4 w27 w.heap.size (fun k_ => some k_ ≠ (v248 : Value).ownBlock ∧ some k_ ≠ (v251 : Value).ownBlock ∧ k_ ≠ gb237 ∧ k_ ≠ gb244 ∧ k_ ≠ gb253) (.slice Ao21 t241.length co21) t241) := ⟨h0_⟩
        have n1_ : Aside0 (Kd.R Kd.bool 4 w27 w.heap.size (fun _ => True) v248 t247) := ⟨h1_⟩
        have n2_ : Aside0 (Kd.R (Kd.int .i64) 3 w27 w.heap.size (fun _ => True) v251 t250) := ⟨h2_⟩
        have n3_ : Aside0 (w27.heap[gb237]? = some (.cells #[.int .u64 a0_0, .int .i64 a0_1, .slice A0_2 l0_2.length c0_2] 25 (0, 0))) := ⟨h3_⟩
        have n4_ : Aside0 (w27.heap[gb244]? = some (.cells #[.int .u64 t239, .int .i64 t240, .slice Ao21 t241.length co21] 30 (0, 0))) := ⟨h4_⟩
        have n5_ : Aside0 (w27.heap[gb253]? = some (.cells #[.int .u64 0, .int .i64 0, .slice none 0 0] 25 (0, 0))) := ⟨h5_⟩
        have n6_ : Aside0 (w.heap.size ≤ gb253) := ⟨h6_⟩
        have n7_ : Aside0 (w.heap.size ≤ gb253) := ⟨h7_⟩
        have n8_ : Aside0 (gb237 ≠ gb253) := ⟨h8_⟩
        have n9_ : Aside0 (gb253 ≠ gb237) := ⟨h9_⟩
        have n10_ : Aside0 (gb244 ≠ gb253) := ⟨h10_⟩
        have n11_ : Aside0 (gb253 ≠ gb244) := ⟨h11_⟩
        have n12_ : Aside0 (Below w.heap.size w w27) := ⟨h12_⟩
        clear HO243
        clear BK237
        clear BK244
        clear HB
        clear h0_ h1_ h2_ h3_ h4_ h5_ h6_ h7_ h8_ h9_ h10_ h11_ h12_
        have HO243 := n0_
        have HO249 := n1_
        have HO252 := n2_
        have BK237 := n3_
        have BK244 := n4_
        have BK253 := n5_
        have GW253 := n6_
        have GE253 := n7_
        have NB237_253 := n8_
        have NB253_237 := n9_
        have NB244_253 := n10_
        have NB253_244 := n11_
        have HB := n12_
        clear n0_ n1_ n2_ n3_ n4_ n5_ n6_ n7_ n8_ n9_ n10_ n11_ n12_
        have hHeld : w27.cell? ⟨gb237, 0, none⟩ = some (.int .u64 a0_0) ∧ w27.cell? ⟨gb237, 1, none⟩ = some (.int .i64 a0_1) ∧ w27.cell? ⟨gb237, 2, none⟩ = some (.slice A0_2 l0_2.length c0_2) := hS_
        obtain ⟨Ao30, co30, eo30⟩ := Kd.R_slice HO249.out
        (first | subst eo30 | (injection eo30 with f1_ f2_ f3_; have f4_ := f1_.symm; have f5_ := f3_.symm; clear f1_ f2_ f3_; subst f4_; subst f5_))
        refine norm_ (a' := ?_) ?_ ?_
        rotate_left
        · simp only [putAll, Act.put, List.setIfInBounds_toArray, List.set_cons_zero, List.set_cons_succ]
          rfl
        refine one_ (i := 7) (N := none) #[true, true, true, true, true, true, true, true, false] rfl rfl (one_of HT_.out (by kernel_rfl)) (by decide) (fun K hK => ?_)
        have hs28 : w27.cell? ⟨gb253, 0, none⟩ = some (.int .u64 0) := (blk_cell BK253.out 0).trans rfl
        have hfs28 := blk_frozen BK253.out 0
        have hns28_0 := NB237_253.out
        have hns28_1 := NB244_253.out
        have hms28_0 := NB253_237.out
        have hms28_1 := NB253_244.out
        have hs29 : w27.cell? ⟨gb253, 1, none⟩ = some (.int .i64 0) := (blk_cell BK253.out 1).trans rfl
        have hfs29 := blk_frozen BK253.out 1
        have hns29_0 := NB237_253.out
        have hns29_1 := NB244_253.out
        have hms29_0 := NB253_237.out
        have hms29_1 := NB253_244.out
        have hs31 : w27.cell? ⟨gb253, 2, none⟩ = some (.slice none 0 0) := (blk_cell BK253.out 2).trans rfl
        have hfs31 := blk_frozen BK253.out 2
        have hns31_0 := NB237_253.out
        have hns31_1 := NB244_253.out
        have hms31_0 := NB253_237.out
        have hms31_1 := NB253_244.out
        refine skip_ (w1 := ?_) (by rfl) rfl ?_ ?_
        rotate_left
        · go_simp
          rfl
        refine hK.out _ _ ⟨((cell_far (p := ⟨gb253, _, none⟩) NB237_253.out _).trans (((cell_far (p := ⟨gb253, _, none⟩) NB237_253.out _).trans (((cell_far (p := ⟨gb253, _, none⟩) NB237_253.out _).trans (hHeld.1)))))), ((cell_far (p := ⟨gb253, _, none⟩) NB237_253.out _).trans (((cell_far (p := ⟨gb253, _, none⟩) NB237_253.out _).trans (((cell_far (p := ⟨gb253, _, none⟩) NB237_253.out _).trans (hHeld.2.1)))))), ((cell_far (p := ⟨gb253, _, none⟩) NB237_253.out _).trans (((cell_far (p := ⟨gb253, _, none⟩) NB237_253.out _).trans (((cell_far (p := ⟨gb253, _, none⟩) NB237_253.out _).trans (hHeld.2.2))))))⟩ (fun hHeld => ?_)
        clear hK K
        refine pure_ (i := 8) (N := some 7) (v := ?_) (a' := ?_) #[true, true, true, true, true, true, true, true, true] rfl rfl (any_of HT_.out (by kernel_rfl)) (fun _ _ _ h => h) (Or.inl ⟨by rfl, ?_⟩) ?_ ?_
        rotate_left
        · intro w'
          go_simp
          with_reducible rfl
        rotate_left
        · simp only [Act.put, List.setIfInBounds_toArray, List.set_cons_zero, List.set_cons_succ, i64_w, i32_w]
          rfl
        refine done_ (done_of HT_.out (by kernel_rfl)) ?_
        have hnb32 := NB237_253.out
        have hnc32 := NB253_237.out
        have hcz33_0 : w27.cell? ⟨gb237, 0, none⟩ = some (.int .u64 a0_0) := (blk_cell BK237.out 0).trans rfl
        have hcz33_1 : w27.cell? ⟨gb237, 1, none⟩ = some (.int .i64 a0_1) := (blk_cell BK237.out 1).trans rfl
        have hcz33_2 : w27.cell? ⟨gb237, 2, none⟩ = some (.slice A0_2 l0_2.length c0_2) := (blk_cell BK237.out 2).trans rfl
        have hfz33_0 := blk_frozen BK237.out 0
        have hfz33_1 := blk_frozen BK237.out 1
        have hfz33_2 := blk_frozen BK237.out 2
        try go_wp2
        go_loopg [8, 39] kj2 (fun kq v8 v39 w' => ∃ (x8_2 : Int) (x39_2 : Int), v8 = .int .i64 x8_2 ∧ v39 = .int .i64 x39_2 ∧ Aside0 (rillmeterlaw10_BloomTurns.l0 kq a1 t250 x8_2 l0_2 (l0_2.length : Int) x39_2 a0_0 a0_1 l0_2 t239 t240 t241 t245 t246 t247 = some r) ∧ Aside0 (kq ≤ kj2) ∧ Aside0 (Kd.R (Kd.int .i64) 3 w' w.heap.size (fun _ => True) v251 t250) ∧ Aside0 (Kd.V Kd.bool 4 w' w.heap.size (fun k_ => some k_ ≠ (v251 : Value).ownBlock ∧ some k_ ≠ ((.slice Ao30 t247.length co30) : Value).ownBlock ∧ k_ ≠ gb237 ∧ k_ ≠ gb244 ∧ k_ ≠ gb253) (.slice Ao21 t241.length co21) t241) ∧ Aside0 (Kd.R Kd.bool 4 w' w.heap.size (fun _ => True) (.slice Ao30 t247.length co30) t247) ∧ Aside0 (w'.heap[gb237]? = some (.cells #[.int .u64 a0_0, .int .i64 a0_1, (.slice A0_2 l0_2.length c0_2)] 25 (0, 0))) ∧ Aside0 (w'.heap[gb244]? = some (.cells #[.int .u64 t239, .int .i64 t240, (.slice Ao21 t241.length co21)] 30 (0, 0))) ∧ Aside0 (w'.heap[gb253]? = some (.cells #[.int .u64 t245, .int .i64 t246, (.slice Ao30 t247.length co30)] 25 (0, 0))) ∧ Aside0 (Below w.heap.size w w'))
        case atStart => exact ⟨(0), (0), (by first | rfl | (simp; done) | (simp [*]; done)), (by first | rfl | (simp; done) | (simp [*]; done)), H', ⟨Nat.le_refl _⟩, ⟨by (with_reducible repeat (first | apply Kd.R_alloc | apply Kd.R_drewN | apply Kd.R_drew)); exact Kd.R_mono (Kd.R_far (p := ⟨gb253, 2, none⟩) (Kd.R_far (p := ⟨gb253, 1, none⟩) (Kd.R_far (p := ⟨gb253, 0, none⟩) (Kd.R_types HO252.out BK253.out (by decide)) (fun _ hk => hk.2) (.int .u64 t245)) (fun _ hk => hk.2) (.int .i64 t246)) (fun _ hk => hk.2) (.slice Ao30 t247.length co30)) (fun _ hk => trivial)⟩, ⟨by (with_reducible repeat (first | apply Kd.V_alloc | apply Kd.V_drewN | apply Kd.V_drew)); exact Kd.V_mono (Kd.V_far (p := ⟨gb253, 2, none⟩) (Kd.V_far (p := ⟨gb253, 1, none⟩) (Kd.V_far (p := ⟨gb253, 0, none⟩) (Kd.V_mono HO243.out (fun k_ hk => (⟨hk, hk.2.2.2.2⟩ : _ ∧ k_ ≠ gb253))) (fun _ hk => hk.2) (.int .u64 t245)) (fun _ hk => hk.2) (.int .i64 t246)) (fun _ hk => hk.2) (.slice Ao30 t247.length co30)) (fun _ hk => ⟨hk.1.2.1, ⟨hk.1.1, ⟨hk.1.2.2.1, ⟨hk.1.2.2.2.1, hk.1.2.2.2.2⟩⟩⟩⟩)⟩, ⟨by (with_reducible repeat (first | apply Kd.R_alloc | apply Kd.R_drewN | apply Kd.R_drew)); exact Kd.R_mono (Kd.R_far (p := ⟨gb253, 2, none⟩) (Kd.R_far (p := ⟨gb253, 1, none⟩) (Kd.R_far (p := ⟨gb253, 0, none⟩) (Kd.R_types HO249.out BK253.out (by decide)) (fun _ hk => hk.2) (.int .u64 t245)) (fun _ hk => hk.2) (.int .i64 t246)) (fun _ hk => hk.2) (.slice Ao30 t247.length co30)) (fun _ hk => trivial)⟩, ⟨by (with_reducible repeat (first | refine blk_drewN ?_ _ | refine blk_drew ?_ | refine blk_alloc ?_ _)); refine blk_far ?_ NB237_253.out _; (with_reducible repeat (first | refine blk_drewN ?_ _ | refine blk_drew ?_ | refine blk_alloc ?_ _)); refine blk_far ?_ NB237_253.out _; (with_reducible repeat (first | refine blk_drewN ?_ _ | refine blk_drew ?_ | refine blk_alloc ?_ _)); refine blk_far ?_ NB237_253.out _; (with_reducible repeat (first | refine blk_drewN ?_ _ | refine blk_drew ?_ | refine blk_alloc ?_ _)); exact BK237.out⟩, ⟨by (with_reducible repeat (first | refine blk_drewN ?_ _ | refine blk_drew ?_ | refine blk_alloc ?_ _)); refine blk_far ?_ NB244_253.out _; (with_reducible repeat (first | refine blk_drewN ?_ _ | refine blk_drew ?_ | refine blk_alloc ?_ _)); refine blk_far ?_ NB244_253.out _; (with_reducible repeat (first | refine blk_drewN ?_ _ | refine blk_drew ?_ | refine blk_alloc ?_ _)); refine blk_far ?_ NB244_253.out _; (with_reducible repeat (first | refine blk_drewN ?_ _ | refine blk_drew ?_ | refine blk_alloc ?_ _)); exact BK244.out⟩, ⟨by (with_reducible repeat (first | refine blk_drewN ?_ _ | refine blk_drew ?_ | refine blk_alloc ?_ _)); refine blk_put (cs := #[.int .u64 t245, .int .i64 t246, .slice none 0 0]) ?_ 2 _ rfl; (with_reducible repeat (first | refine blk_drewN ?_ _ | refine blk_drew ?_ | refine blk_alloc ?_ _)); refine blk_put (cs := #[.int .u64 t245, .int .i64 0, .slice none 0 0]) ?_ 1 _ rfl; (with_reducible repeat (first | refine blk_drewN ?_ _ | refine blk_drew ?_ | refine blk_alloc ?_ _)); refine blk_put (cs := #[.int .u64 0, .int .i64 0, .slice none 0 0]) ?_ 0 _ rfl; (with_reducible repeat (first | refine blk_drewN ?_ _ | refine blk_drew ?_ | refine blk_alloc ?_ _)); exact BK253.out⟩, ⟨by repeat (first | (with_reducible first | exact HB.out | apply below_alloc | apply pw_below_drewN | apply below_drew1 | refine below_set ?_ GE237.out | refine below_set ?_ GE244.out | refine below_set ?_ GE253.out) | exact HB.out)⟩⟩
        case round =>
          clear H'
          try clear c1
          try clear p2
          try clear c3
          try clear c4
          try clear c5
          try clear c5b0
          try clear c5b1
          try clear c7
          try clear c7b0
          try clear c7b1
          try clear c10
          try clear c11
          try clear c12
          try clear c16
          try clear c17
          try clear c19
          try clear c32
          try clear hcz16_0
          try clear hcz16_1
          try clear hcz16_2
          try clear hcz20_0
          try clear hcz20_1
          try clear hcz20_2
          try clear hcz33_0
          try clear hcz33_1
          try clear hcz33_2
          try clear hcz6_0
          try clear hcz6_1
          try clear hcz6_2
          try clear hcz8_0
          try clear hcz8_1
          try clear hcz8_2
          try clear hcz9_0
          try clear hcz9_1
          try clear hcz9_2
          try clear hfz16_0
          try clear hfz16_1
          try clear hfz16_2
          try clear hfz20_0
          try clear hfz20_1
          try clear hfz20_2
          try clear hfz33_0
          try clear hfz33_1
          try clear hfz33_2
          try clear hfz6_0
          try clear hfz6_1
          try clear hfz6_2
          try clear hfz8_0
          try clear hfz8_1
          try clear hfz8_2
          try clear hfz9_0
          try clear hfz9_1
          try clear hfz9_2
          try clear p2
          obtain ⟨x8_2, x39_2, rfl, rfl, HA, HK2, HO_7, HO_245002, HO_254002, BK237, BK244, BK253, HB⟩ := hrel
          cases gk with
          | zero => exact absurd HA.out (by simp [rillmeterlaw10_BloomTurns.l0])
          | succ k2 =>
            have H := HA.out
            clear HA
            simp only [rillmeterlaw10_BloomTurns.l0] at H
            by_cases c34 : x39_2 < (l0_2.length : Int)
            · rw [if_pos c34] at H
              have c34b0 : decide (x39_2 < (l0_2.length : Int)) = true := decide_eq_true c34
              clear c34
              by_cases c35 : 0 ≤ x39_2
              · rw [if_pos c35] at H
                have c35b0 : decide (0 ≤ x39_2) = true := decide_eq_true c35
                clear c35
                by_cases c36 : x39_2 < (l0_2.length : Int)
                · rw [if_pos c36] at H
                  have c36b0 : decide (x39_2 < (l0_2.length : Int)) = true := decide_eq_true c36
                  clear c36
                  obtain ⟨bq37, hbq37⟩ : ∃ b_ : Bool, b_ = (rdOf false l0_2 x39_2) := ⟨_, rfl⟩
                  replace H : (if bq37 = true then (rillmeterlaw10_BloomTurns.l0 k2 a1 t250 (wrap64 (x8_2 + 1)) l0_2 (l0_2.length : Int) (wrap64 (x39_2 + 1)) a0_0 a0_1 l0_2 t239 t240 t241 t245 t246 t247) else (rillmeterlaw10_BloomTurns.l0 k2 a1 t250 x8_2 l0_2 (l0_2.length : Int) (wrap64 (x39_2 + 1)) a0_0 a0_1 l0_2 t239 t240 t241 t245 t246 t247)) = some r := by rw [← hbq37] at H; exact H
                  have Nbq37 := Aside0.mk hbq37
                  clear hbq37
                  by_cases c38 : bq37 = true
                  · subst c38
                    have H1 : (rillmeterlaw10_BloomTurns.l0 k2 a1 t250 (wrap64 (x8_2 + 1)) l0_2 (l0_2.length : Int) (wrap64 (x39_2 + 1)) a0_0 a0_1 l0_2 t239 t240 t241 t245 t246 t247) = some r := by rw [if_pos rfl] at H; exact H
                    clear H
                    have H := H1
                    clear H1
                    have H' := Aside0.mk H
                    clear H
                    have p254 : 0 ≤ (x39_2 : Int) := of_decide_eq_true (by first | (with_reducible assumption) | assumption)
                    have q254 : x39_2 < (l0_2.length : Int) := of_decide_eq_true (by first | (with_reducible assumption) | assumption)
                    obtain ⟨ad254, e254, hx254_0⟩ := Kd.at_bool HR0_2.out x39_2 p254 q254
                    (try rw [← Nbq37.out] at hx254_0)
                    cases e254
                    replace hx254_0 := (HB.out.cell (World.block_lt_of_cell? w _ hx254_0)).trans hx254_0
                    replace p254 := eq_true p254
                    replace q254 := eq_true q254
                    go_wp2
                    go_roundg k2
                    case measure => have := HJ2.out; have := HK2.out; omega
                    case rel => exact ⟨(wrap64 (x8_2 + 1)), (wrap64 (x39_2 + 1)), (by first | rfl | (simp; done) | (simp [*]; done)), (by first | rfl | (simp; done) | (simp [*]; done)), H', ⟨by have := HJ2.out; have := HK2.out; omega⟩, ⟨by (with_reducible repeat (first | apply Kd.R_alloc | apply Kd.R_drewN | apply Kd.R_drew)); exact HO_7.out⟩, ⟨by (with_reducible repeat (first | apply Kd.V_alloc | apply Kd.V_drewN | apply Kd.V_drew)); exact HO_245002.out⟩, ⟨by (with_reducible repeat (first | apply Kd.R_alloc | apply Kd.R_drewN | apply Kd.R_drew)); exact HO_254002.out⟩, ⟨by (with_reducible repeat (first | refine blk_drewN ?_ _ | refine blk_drew ?_ | refine blk_alloc ?_ _)); exact BK237.out⟩, ⟨by (with_reducible repeat (first | refine blk_drewN ?_ _ | refine blk_drew ?_ | refine blk_alloc ?_ _)); exact BK244.out⟩, ⟨by (with_reducible repeat (first | refine blk_drewN ?_ _ | refine blk_drew ?_ | refine blk_alloc ?_ _)); exact BK253.out⟩, ⟨by repeat (first | (with_reducible first | exact HB.out | apply below_alloc | apply pw_below_drewN | apply below_drew1 | refine below_set ?_ GE237.out | refine below_set ?_ GE244.out | refine below_set ?_ GE253.out) | exact HB.out)⟩⟩
                  · replace c38 := Bool.eq_false_iff.mpr c38
                    subst c38
                    have H1 : (rillmeterlaw10_BloomTurns.l0 k2 a1 t250 x8_2 l0_2 (l0_2.length : Int) (wrap64 (x39_2 + 1)) a0_0 a0_1 l0_2 t239 t240 t241 t245 t246 t247) = some r := by rw [if_neg (show ¬ (false = true) by decide)] at H; exact H
                    clear H
                    have H := H1
                    clear H1
                    have H' := Aside0.mk H
                    clear H
                    have p254 : 0 ≤ (x39_2 : Int) := of_decide_eq_true (by first | (with_reducible assumption) | assumption)
                    have q254 : x39_2 < (l0_2.length : Int) := of_decide_eq_true (by first | (with_reducible assumption) | assumption)
                    obtain ⟨ad254, e254, hx254_0⟩ := Kd.at_bool HR0_2.out x39_2 p254 q254
                    (try rw [← Nbq37.out] at hx254_0)
                    cases e254
                    replace hx254_0 := (HB.out.cell (World.block_lt_of_cell? w _ hx254_0)).trans hx254_0
                    replace p254 := eq_true p254
                    replace q254 := eq_true q254
                    go_wp2
                    go_roundg k2
                    case measure => have := HJ2.out; have := HK2.out; omega
                    case rel => exact ⟨(x8_2), (wrap64 (x39_2 + 1)), (by first | rfl | (simp; done) | (simp [*]; done)), (by first | rfl | (simp; done) | (simp [*]; done)), H', ⟨by have := HJ2.out; have := HK2.out; omega⟩, ⟨by (with_reducible repeat (first | apply Kd.R_alloc | apply Kd.R_drewN | apply Kd.R_drew)); exact HO_7.out⟩, ⟨by (with_reducible repeat (first | apply Kd.V_alloc | apply Kd.V_drewN | apply Kd.V_drew)); exact HO_245002.out⟩, ⟨by (with_reducible repeat (first | apply Kd.R_alloc | apply Kd.R_drewN | apply Kd.R_drew)); exact HO_254002.out⟩, ⟨by (with_reducible repeat (first | refine blk_drewN ?_ _ | refine blk_drew ?_ | refine blk_alloc ?_ _)); exact BK237.out⟩, ⟨by (with_reducible repeat (first | refine blk_drewN ?_ _ | refine blk_drew ?_ | refine blk_alloc ?_ _)); exact BK244.out⟩, ⟨by (with_reducible repeat (first | refine blk_drewN ?_ _ | refine blk_drew ?_ | refine blk_alloc ?_ _)); exact BK253.out⟩, ⟨by repeat (first | (with_reducible first | exact HB.out | apply below_alloc | apply pw_below_drewN | apply below_drew1 | refine below_set ?_ GE237.out | refine below_set ?_ GE244.out | refine below_set ?_ GE253.out) | exact HB.out)⟩⟩
                · rw [if_neg c36] at H
                  exact absurd H (by simp)
              · rw [if_neg c35] at H
                exact absurd H (by simp)
            · rw [if_neg c34] at H
              have c34b0 : decide (x39_2 < (l0_2.length : Int)) = false := decide_eq_false c34
              clear c34
              replace H := Option.bind_eq_some_iff.mp H
              obtain ⟨t255, A390, H⟩ := H
              replace H : (if t255 = true then (if (t250.length : Int) = a0_1 then (rillmeterlaw10_BloomTurns.l1 k2 a1 x8_2 t250 (t250.length : Int) 0 a0_0 a0_1 l0_2 t239 t240 t241 t245 t246 t247) else (some false)) else ((bloom_Right.f a0_0 a0_1 l0_2).bind fun t256 => (if t256 = true then (some false) else ((rillmeterlaw10_ref.f t245 t246 t247).bind fun bt257 => ((rillmeterref10_Equal.f k2 bt257.1 bt257.2.1 bt257.2.2 t239 t240 t241).bind fun t262 => (if t262 = true then (if (t250.length : Int) = 0 then ((bloom_Has.f k2 a0_0 a0_1 l0_2 a1).bind fun t263 => (if t263 = true then (some false) else ((bloom_Set.f k2 a0_0 a0_1 l0_2).bind fun t264 => (if t264 = 0 then ((rillmeterlaw10_awake.f k2).bind fun t265 => (some t265)) else (some false))))) else (some false)) else (some false))))))) = some r := H
              have A39 := Aside0.mk A390
              clear A390
              by_cases c40 : t255 = true
              · subst c40
                have H1 : (if (t250.length : Int) = a0_1 then (rillmeterlaw10_BloomTurns.l1 k2 a1 x8_2 t250 (t250.length : Int) 0 a0_0 a0_1 l0_2 t239 t240 t241 t245 t246 t247) else (some false)) = some r := by rw [if_pos rfl] at H; exact H
                clear H
                have H := H1
                clear H1
                by_cases c41 : (t250.length : Int) = a0_1
                · rw [if_pos c41] at H
                  have c41b0 : ((t250.length : Int) == a0_1) = true := beq_iff_eq.mpr c41
                  have c41b1 : ((t250.length : Int) != a0_1) = false := bne_eq_false_iff_eq.mpr c41
                  clear c41
                  have H' := Aside0.mk H
                  clear H
                  have hnb42 := NB244_237.out
                  have hnc42 := NB237_244.out
                  have hnb43 := NB244_253.out
                  have hnc43 := NB253_244.out
                  have hcz44_0 : wr.cell? ⟨gb244, 0, none⟩ = some (.int .u64 t239) := (blk_cell BK244.out 0).trans rfl
                  have hcz44_1 : wr.cell? ⟨gb244, 1, none⟩ = some (.int .i64 t240) := (blk_cell BK244.out 1).trans rfl
                  have hcz44_2 : wr.cell? ⟨gb244, 2, none⟩ = some (.slice Ao21 t241.length co21) := (blk_cell BK244.out 2).trans rfl
                  have hfz44_0 := blk_frozen BK244.out 0
                  have hfz44_1 := blk_frozen BK244.out 1
                  have hfz44_2 := blk_frozen BK244.out 2
                  go_wp2_with (first | ((with_reducible refine gate_callee (f := 18) rfl ?_); refine goesL_ (some 48) rfl rfl Try.func18 (by kernel_rfl) rfl #[.agg #[.int .u64 t239, .int .i64 t240, .slice Ao21 t241.length co21]] rfl (by (try simp only [List.map_toArray, List.map_cons, List.map_nil]); first | done | rfl | (simp only [List.length_drop, List.length_take]; rfl)) ?_; (with_reducible refine (rillmeterref10_Right.calls t239 t240 _ _ t241 true _ ?side1 ?side2 A39.out).mono ?_); (case side1 => repeat (first | exact (Kd.V_reads' HO_245002.out).2.2 | (with_reducible refine Kd.C_alloc ?_ _) | (with_reducible refine Kd.C_drewN ?_ _) | (with_reducible refine Kd.C_drew ?_))); (case side2 => exact (Kd.V_reads' HO_245002.out).2.1); rintro e w45 ⟨rfl, hb⟩; refine ⟨_, rfl, ?_⟩; have n0_ := Aside0.mk (Kd.R_below (by (with_reducible repeat (first | apply Kd.R_alloc | apply Kd.R_drewN | apply Kd.R_drew)); exact HO_7.out) hb); have n1_ := Aside0.mk (Kd.V_below (by (with_reducible repeat (first | apply Kd.V_alloc | apply Kd.V_drewN | apply Kd.V_drew)); exact HO_245002.out) hb); have n2_ := Aside0.mk (Kd.R_below (by (with_reducible repeat (first | apply Kd.R_alloc | apply Kd.R_drewN | apply Kd.R_drew)); exact HO_254002.out) hb); have n3_ := Aside0.mk (blk_below (g := gb237) (o := .cells #[.int .u64 a0_0, .int .i64 a0_1, .slice A0_2 l0_2.length c0_2] 25 (0, 0)) (by (with_reducible repeat (first | refine blk_drewN ?_ _ | refine blk_drew ?_ | refine blk_alloc ?_ _)); exact BK237.out) hb); have n4_ := Aside0.mk (blk_below (g := gb244) (o := .cells #[.int .u64 t239, .int .i64 t240, .slice Ao21 t241.length co21] 30 (0, 0)) (by (with_reducible repeat (first | refine blk_drewN ?_ _ | refine blk_drew ?_ | refine blk_alloc ?_ _)); exact BK244.out) hb); have n5_ := Aside0.mk (blk_below (g := gb253) (o := .cells #[.int .u64 t245, .int .i64 t246, .slice Ao30 t247.length co30] 25 (0, 0)) (by (with_reducible repeat (first | refine blk_drewN ?_ _ | refine blk_drew ?_ | refine blk_alloc ?_ _)); exact BK253.out) hb); have n6_ := Aside0.mk (below_step (by repeat (first | (with_reducible first | exact HB.out | apply below_alloc | apply pw_below_drewN | apply below_drew1 | refine below_set ?_ GE237.out | refine below_set ?_ GE244.out | refine below_set ?_ GE253.out) | exact HB.out)) hb); clear HO_7; clear HO_245002; clear HO_254002; clear BK237; clear BK244; clear BK253; clear HB; have HO_7 := n0_; have HO_245002 := n1_; have HO_254002 := n2_; have BK237 := n3_; have BK244 := n4_; have BK253 := n5_; have HB := n6_; clear n0_ n1_ n2_ n3_ n4_ n5_ n6_; (try clear hb); (try clear hb2); (try clear hk); (try clear hi); obtain ⟨Ao46, co46, eo46⟩ := Kd.R_slice HO_7.out; subst eo46; have hnb47 := NB237_253.out; have hnc47 := NB253_237.out; have hcz48_0 : w45.cell? ⟨gb237, 0, none⟩ = some (.int .u64 a0_0) := (blk_cell BK237.out 0).trans rfl; have hcz48_1 : w45.cell? ⟨gb237, 1, none⟩ = some (.int .i64 a0_1) := (blk_cell BK237.out 1).trans rfl; have hcz48_2 : w45.cell? ⟨gb237, 2, none⟩ = some (.slice A0_2 l0_2.length c0_2) := (blk_cell BK237.out 2).trans rfl; have hfz48_0 := blk_frozen BK237.out 0; have hfz48_1 := blk_frozen BK237.out 1; have hfz48_2 := blk_frozen BK237.out 2))
                  go_loopg [85] k2 (fun kq v85 w' => ∃ (x85_3 : Int), v85 = .int .i64 x85_3 ∧ Aside0 (rillmeterlaw10_BloomTurns.l1 kq a1 x8_2 t250 (t250.length : Int) x85_3 a0_0 a0_1 l0_2 t239 t240 t241 t245 t246 t247 = some r) ∧ Aside0 (kq ≤ k2) ∧ Aside0 (Kd.R (Kd.int .i64) 3 w' w.heap.size (fun _ => True) (.slice Ao46 t250.length co46) t250) ∧ Aside0 (Kd.V Kd.bool 4 w' w.heap.size (fun k_ => some k_ ≠ ((.slice Ao46 t250.length co46) : Value).ownBlock ∧ some k_ ≠ ((.slice Ao30 t247.length co30) : Value).ownBlock ∧ k_ ≠ gb237 ∧ k_ ≠ gb244 ∧ k_ ≠ gb253) (.slice Ao21 t241.length co21) t241) ∧ Aside0 (Kd.R Kd.bool 4 w' w.heap.size (fun _ => True) (.slice Ao30 t247.length co30) t247) ∧ Aside0 (w'.heap[gb237]? = some (.cells #[.int .u64 a0_0, .int .i64 a0_1, (.slice A0_2 l0_2.length c0_2)] 25 (0, 0))) ∧ Aside0 (w'.heap[gb244]? = some (.cells #[.int .u64 t239, .int .i64 t240, (.slice Ao21 t241.length co21)] 30 (0, 0))) ∧ Aside0 (w'.heap[gb253]? = some (.cells #[.int .u64 t245, .int .i64 t246, (.slice Ao30 t247.length co30)] 25 (0, 0))) ∧ Aside0 (Below w.heap.size w w'))
                  case atStart => exact ⟨(0), (by first | rfl | (simp; done) | (simp [*]; done)), H', ⟨Nat.le_refl _⟩, ⟨by (with_reducible repeat (first | apply Kd.R_alloc | apply Kd.R_drewN | apply Kd.R_drew)); exact HO_7.out⟩, ⟨by (with_reducible repeat (first | apply Kd.V_alloc | apply Kd.V_drewN | apply Kd.V_drew)); exact HO_245002.out⟩, ⟨by (with_reducible repeat (first | apply Kd.R_alloc | apply Kd.R_drewN | apply Kd.R_drew)); exact HO_254002.out⟩, ⟨by (with_reducible repeat (first | refine blk_drewN ?_ _ | refine blk_drew ?_ | refine blk_alloc ?_ _)); exact BK237.out⟩, ⟨by (with_reducible repeat (first | refine blk_drewN ?_ _ | refine blk_drew ?_ | refine blk_alloc ?_ _)); exact BK244.out⟩, ⟨by (with_reducible repeat (first | refine blk_drewN ?_ _ | refine blk_drew ?_ | refine blk_alloc ?_ _)); exact BK253.out⟩, ⟨by repeat (first | (with_reducible first | exact HB.out | apply below_alloc | apply pw_below_drewN | apply below_drew1 | refine below_set ?_ GE237.out | refine below_set ?_ GE244.out | refine below_set ?_ GE253.out) | exact HB.out)⟩⟩
                  case round =>
                    clear H'
                    try clear c1
                    try clear p2
                    try clear q2
                    try clear hx2
                    try clear c3
                    try clear q3
                    try clear c4
                    try clear c5
                    try clear c5b0
                    try clear c5b1
                    try clear p6
                    try clear c7
                    try clear c7b0
                    try clear c7b1
                    try clear c10
                    try clear c11
                    try clear c12
                    try clear c16
                    try clear c17
                    try clear c18
                    try clear c19
                    try clear p25
                    try clear q25
                    try clear hx25
                    try clear c32
                    try clear c34
                    try clear c34b0
                    try clear c35
                    try clear c35b0
                    try clear c36
                    try clear c36b0
                    try clear q37
                    try clear c38
                    try clear c40
                    try clear c41
                    try clear c41b0
                    try clear c41b1
                    try clear c42
                    try clear c43
                    try clear c47
                    try clear hcz16_0
                    try clear hcz16_1
                    try clear hcz16_2
                    try clear hcz20_0
                    try clear hcz20_1
                    try clear hcz20_2
                    try clear hcz33_0
                    try clear hcz33_1
                    try clear hcz33_2
                    try clear hcz44_0
                    try clear hcz44_1
                    try clear hcz44_2
                    try clear hcz48_0
                    try clear hcz48_1
                    try clear hcz48_2
                    try clear hcz6_0
                    try clear hcz6_1
                    try clear hcz6_2
                    try clear hcz8_0
                    try clear hcz8_1
                    try clear hcz8_2
                    try clear hcz9_0
                    try clear hcz9_1
                    try clear hcz9_2
                    try clear hfz16_0
                    try clear hfz16_1
                    try clear hfz16_2
                    try clear hfz20_0
                    try clear hfz20_1
                    try clear hfz20_2
                    try clear hfz33_0
                    try clear hfz33_1
                    try clear hfz33_2
                    try clear hfz44_0
                    try clear hfz44_1
                    try clear hfz44_2
                    try clear hfz48_0
                    try clear hfz48_1
                    try clear hfz48_2
                    try clear hfz6_0
                    try clear hfz6_1
                    try clear hfz6_2
                    try clear hfz8_0
                    try clear hfz8_1
                    try clear hfz8_2
                    try clear hfz9_0
                    try clear hfz9_1
                    try clear hfz9_2
                    try clear hx254_0
                    try clear p2
                    try clear p254
                    try clear q254
                    obtain ⟨x85_3, rfl, HA, HK3, HO_83, HO_245002, HO_254002, BK237, BK244, BK253, HB⟩ := hrel
                    cases gk with
                    | zero => exact absurd HA.out (by simp [rillmeterlaw10_BloomTurns.l1])
                    | succ k3 =>
                      have H := HA.out
                      clear HA
                      simp only [rillmeterlaw10_BloomTurns.l1] at H
                      by_cases c49 : x85_3 < (t250.length : Int)
                      · rw [if_pos c49] at H
                        have c49b0 : decide (x85_3 < (t250.length : Int)) = true := decide_eq_true c49
                        clear c49
                        by_cases c50 : 0 ≤ x85_3
                        · rw [if_pos c50] at H
                          have c50b0 : decide (0 ≤ x85_3) = true := decide_eq_true c50
                          clear c50
                          by_cases c51 : x85_3 < (t250.length : Int)
                          · rw [if_pos c51] at H
                            have c51b0 : decide (x85_3 < (t250.length : Int)) = true := decide_eq_true c51
                            clear c51
                            replace H := Option.bind_eq_some_iff.mp H
                            obtain ⟨t267, A520, H⟩ := H
                            replace H : ((rillmeterref02_Cell.f k3 t267 a1 (l0_2.length : Int)).bind fun t268 => (if (rd t250 x85_3) = t268 then (rillmeterlaw10_BloomTurns.l1 k3 a1 x8_2 t250 (t250.length : Int) (wrap64 (x85_3 + 1)) a0_0 a0_1 l0_2 t239 t240 t241 t245 t246 t247) else (some false))) = some r := H
                            have A52 := Aside0.mk A520
                            clear A520
                            replace H := Option.bind_eq_some_iff.mp H
                            obtain ⟨t268, A530, H⟩ := H
                            replace H : (if (rd t250 x85_3) = t268 then (rillmeterlaw10_BloomTurns.l1 k3 a1 x8_2 t250 (t250.length : Int) (wrap64 (x85_3 + 1)) a0_0 a0_1 l0_2 t239 t240 t241 t245 t246 t247) else (some false)) = some r := H
                            have A53 := Aside0.mk A530
                            clear A530
                            by_cases c54 : (rd t250 x85_3) = t268
                            · rw [if_pos c54] at H
                              have c54b0 : ((rd t250 x85_3) == t268) = true := beq_iff_eq.mpr c54
                              have c54b1 : ((rd t250 x85_3) != t268) = false := bne_eq_false_iff_eq.mpr c54
                              clear c54
                              have H' := Aside0.mk H
                              clear H
                              have p266 : 0 ≤ (x85_3 : Int) := of_decide_eq_true (by first | (with_reducible assumption) | assumption)
                              have q266 : x85_3 < (t250.length : Int) := of_decide_eq_true (by first | (with_reducible assumption) | assumption)
                              obtain ⟨ad266, e266, hx266_0⟩ := Kd.at_int (Kd.R_reads' HO_83.out).2.2 x85_3 p266 q266
                              cases e266
                              replace p266 := eq_true p266
                              replace q266 := eq_true q266
                              try go_wp2
                              have n0_ := Aside0.mk (Kd.R_drew HO_83.out)
                              have n1_ := Aside0.mk (Kd.V_drew HO_245002.out)
                              have n2_ := Aside0.mk (Kd.R_drew HO_254002.out)
                              have n3_ := Aside0.mk (blk_drew BK237.out)
                              have n4_ := Aside0.mk (blk_drew BK244.out)
                              have n5_ := Aside0.mk (blk_drew BK253.out)
                              have n6_ := Aside0.mk (below_drew1 HB.out)
                              clear HO_83
                              clear HO_245002
                              clear HO_254002
                              clear BK237
                              clear BK244
                              clear BK253
                              clear HB
                              have HO_83 := n0_
                              have HO_245002 := n1_
                              have HO_254002 := n2_
                              have BK237 := n3_
                              have BK244 := n4_
                              have BK253 := n5_
                              have HB := n6_
                              clear n0_ n1_ n2_ n3_ n4_ n5_ n6_
                              refine start_ (n := 11) (S := fun w' => w'.cell? ⟨gb237, 0, none⟩ = some (.int .u64 a0_0) ∧ w'.cell? ⟨gb237, 1, none⟩ = some (.int .i64 a0_1) ∧ w'.cell? ⟨gb237, 2, none⟩ = some (.slice A0_2 l0_2.length c0_2)) (ds := []) #[false, false, false, false, false, false, false, false, false, false, false] (by kernel_rfl) rfl rfl ⟨(blk_cell BK237.out 0).trans rfl, (blk_cell BK237.out 1).trans rfl, (blk_cell BK237.out 2).trans rfl⟩ (fun hHeld => ?_); refine with_tabW rillmeterlaw10_BloomTurns.tab19 rillmeterlaw10_BloomTurns.bits19 (fun HT_ HW_ => ?_)
                              generalize wr.drew = w55 at HO_83 HO_245002 HO_254002 BK237 BK244 BK253 HB hHeld ⊢
                              refine pure_ (i := 0) (N := some 90) (v := ?_) (a' := ?_) #[true, false, false, false, false, false, false, false, false, false, false] rfl rfl (any_of HT_.out (by kernel_rfl)) (fun _ _ _ h => h) (Or.inl ⟨by rfl, ?_⟩) ?_ ?_
                              rotate_left
                              · intro w'
                                go_simp
                                with_reducible rfl
                              rotate_left
                              · simp only [Act.put, List.setIfInBounds_toArray, List.set_cons_zero, List.set_cons_succ, i64_w, i32_w]
                                rfl
                              refine pure_ (i := 1) (N := some 91) (v := ?_) (a' := ?_) #[true, true, false, false, false, false, false, false, false, false, false] rfl rfl (any_of HT_.out (by kernel_rfl)) (fun _ _ _ h => h) (Or.inl ⟨by rfl, ?_⟩) ?_ ?_
                              rotate_left
                              · intro w'
                                go_simp
                                with_reducible rfl
                              rotate_left
                              · simp only [Act.put, List.setIfInBounds_toArray, List.set_cons_zero, List.set_cons_succ, i64_w, i32_w]
                                rfl
                              refine pure_ (i := 3) (N := some 93) (v := ?_) (a' := ?_) #[true, true, false, true, false, false, false, false, false, false, false] rfl rfl (any_of HT_.out (by kernel_rfl)) (fun _ _ _ h => h) (Or.inl ⟨by rfl, ?_⟩) ?_ ?_
                              rotate_left
                              · intro w'
                                go_simp
                                with_reducible rfl
                              rotate_left
                              · simp only [Act.put, List.setIfInBounds_toArray, List.set_cons_zero, List.set_cons_succ, i64_w, i32_w]
                                rfl
                              refine pure_ (i := 5) (N := some 95) (v := ?_) (a' := ?_) #[true, true, false, true, false, true, false, false, false, false, false] rfl rfl (any_of HT_.out (by kernel_rfl)) (fun _ _ _ h => h) (Or.inl ⟨by rfl, ?_⟩) ?_ ?_
                              rotate_left
                              · intro w'
                                go_simp
                                with_reducible rfl
                              rotate_left
                              · simp only [Act.put, List.setIfInBounds_toArray, List.set_cons_zero, List.set_cons_succ, i64_w, i32_w]
                                rfl
                              refine pure_ (i := 6) (N := some 96) (v := ?_) (a' := ?_) #[true, true, false, true, false, true, true, false, false, false, false] rfl rfl (any_of HT_.out (by kernel_rfl)) (fun _ _ _ h => h) (Or.inl ⟨by rfl, ?_⟩) ?_ ?_
                              rotate_left
                              · intro w'
                                go_simp
                                with_reducible rfl
                              rotate_left
                              · simp only [Act.put, List.setIfInBounds_toArray, List.set_cons_zero, List.set_cons_succ, i64_w, i32_w]
                                rfl
                              refine take_ (i := 2) (N := some 92) (v := ?_) (a' := ?_) #[true, true, true, true, false, true, true, false, false, false, false] rfl rfl (take_ofW HT_.out HW_.out (by kernel_rfl)) (fun _ _ _ h => h) (Or.inl ⟨by rfl, ?_⟩) hHeld ?_ ?_
                              rotate_left
                              · rintro w' ⟨s0, s1, s2⟩
                                go_simp
                                with_reducible rfl
                              rotate_left
                              · simp only [Act.put, List.setIfInBounds_toArray, List.set_cons_zero, List.set_cons_succ, i64_w, i32_w]
                                rfl
                              refine take_ (i := 7) (N := some 97) (v := ?_) (a' := ?_) #[true, true, true, true, false, true, true, true, false, false, false] rfl rfl (take_ofW HT_.out HW_.out (by kernel_rfl)) (fun _ _ _ h => h) (Or.inl ⟨by rfl, ?_⟩) hHeld ?_ ?_
                              rotate_left
                              · rintro w' ⟨s0, s1, s2⟩
                                go_simp
                                with_reducible rfl
                              rotate_left
                              · simp only [Act.put, List.setIfInBounds_toArray, List.set_cons_zero, List.set_cons_succ, i64_w, i32_w]
                                rfl
                              refine pure_ (i := 8) (N := some 98) (v := ?_) (a' := ?_) #[true, true, true, true, false, true, true, true, true, false, false] rfl rfl (any_of HT_.out (by kernel_rfl)) (fun _ _ _ h => h) (Or.inl ⟨by rfl, ?_⟩) ?_ ?_
                              rotate_left
                              · intro w'
                                go_simp
                                with_reducible rfl
                              rotate_left
                              · simp only [Act.put, List.setIfInBounds_toArray, List.set_cons_zero, List.set_cons_succ, i64_w, i32_w]
                                rfl
                              refine one_ (i := 4) (N := some 94) #[true, true, true, true, true, true, true, true, true, false, false] rfl rfl (one_of HT_.out (by kernel_rfl)) (by decide) (fun K hK => ?_)
                              refine goes_ Try.func21 (by kernel_rfl) rfl #[.int .u64 a0_0, .int .i64 x85_3] (by rfl) rfl rfl (by (try simp only [List.map_toArray, List.map_cons, List.map_nil]); first | done | rfl | (simp only [List.length_drop, List.length_take]; rfl)) ?_
                              with_reducible refine (rillmeterref02_Row.calls k3 a0_0 x85_3 t267 _ A52.out).mono ?_
                              rintro e w' ⟨rfl, ⟨nd, rfl⟩⟩
                              refine ⟨_, rfl, ?_⟩
                              refine hK.out _ _ ⟨(blk_cell BK237.out 0).trans rfl, (blk_cell BK237.out 1).trans rfl, (blk_cell BK237.out 2).trans rfl⟩ (fun hHeld => ?_)
                              clear hK K
                              refine norm_ (a' := ?_) ?_ ?_
                              rotate_left
                              · show Act.put _ (some 94) _ = _
                                simp only [Act.put, List.setIfInBounds_toArray, List.set_cons_zero, List.set_cons_succ, i64_w, i32_w]
                                rfl
                              refine one_ (i := 9) (N := some 99) #[true, true, true, true, true, true, true, true, true, true, false] rfl rfl (one_of HT_.out (by kernel_rfl)) (by decide) (fun K hK => ?_)
                              refine goes_ Try.func20 (by kernel_rfl) rfl #[.int .u64 t267, .string a1, .int .i64 (l0_2.length : Int)] (by rfl) rfl rfl (by (try simp only [List.map_toArray, List.map_cons, List.map_nil]); first | done | rfl | (simp only [List.length_drop, List.length_take]; rfl)) ?_
                              with_reducible refine (rillmeterref02_Cell.calls k3 t267 a1 (l0_2.length : Int) t268 _ A53.out).mono ?_
                              rintro e w56 ⟨rfl, hb⟩
                              refine ⟨_, rfl, ?_⟩
                              have n0_ := Aside0.mk (Kd.R_below (by (with_reducible repeat (first | apply Kd.R_alloc | apply Kd.R_drewN | apply Kd.R_drew)); exact HO_83.out) hb)
                              have n1_ := Aside0.mk (Kd.V_below (by (with_reducible repeat (first | apply Kd.V_alloc | apply Kd.V_drewN | apply Kd.V_drew)); exact HO_245002.out) hb)
                              have n2_ := Aside0.mk (Kd.R_below (by (with_reducible repeat (first | apply Kd.R_alloc | apply Kd.R_drewN | apply Kd.R_drew)); exact HO_254002.out) hb)
                              have n3_ := Aside0.mk (blk_below (g := gb237) (o := .cells #[.int .u64 a0_0, .int .i64 a0_1, .slice A0_2 l0_2.length c0_2] 25 (0, 0)) (by (with_reducible repeat (first | refine blk_drewN ?_ _ | refine blk_drew ?_ | refine blk_alloc ?_ _)); exact BK237.out) hb)
                              have n4_ := Aside0.mk (blk_below (g := gb244) (o := .cells #[.int .u64 t239, .int .i64 t240, .slice Ao21 t241.length co21] 30 (0, 0)) (by (with_reducible repeat (first | refine blk_drewN ?_ _ | refine blk_drew ?_ | refine blk_alloc ?_ _)); exact BK244.out) hb)
                              have n5_ := Aside0.mk (blk_below (g := gb253) (o := .cells #[.int .u64 t245, .int .i64 t246, .slice Ao30 t247.length co30] 25 (0, 0)) (by (with_reducible repeat (first | refine blk_drewN ?_ _ | refine blk_drew ?_ | refine blk_alloc ?_ _)); exact BK253.out) hb)
                              have n6_ := Aside0.mk (below_step (by repeat (first | (with_reducible first | exact HB.out | apply below_alloc | apply pw_below_drewN | apply below_drew1 | refine below_set ?_ GE237.out | refine below_set ?_ GE244.out | refine below_set ?_ GE253.out) | exact HB.out)) hb)
                              clear HO_83
                              clear HO_245002
                              clear HO_254002
                              clear BK237
                              clear BK244
                              clear BK253
                              clear HB
                              have HO_83 := n0_
                              have HO_245002 := n1_
                              have HO_254002 := n2_
                              have BK237 := n3_
                              have BK244 := n4_
                              have BK253 := n5_
                              have HB := n6_
                              clear n0_ n1_ n2_ n3_ n4_ n5_ n6_
                              (try clear hb)
                              (try clear hb2)
                              (try clear hk)
                              (try clear hi)
                              refine hK.out _ _ ⟨(blk_cell BK237.out 0).trans rfl, (blk_cell BK237.out 1).trans rfl, (blk_cell BK237.out 2).trans rfl⟩ (fun hHeld => ?_)
                              clear hK K
                              refine norm_ (a' := ?_) ?_ ?_
                              rotate_left
                              · show Act.put _ (some 99) _ = _
                                simp only [Act.put, List.setIfInBounds_toArray, List.set_cons_zero, List.set_cons_succ, i64_w, i32_w]
                                rfl
                              refine pure_ (i := 10) (N := some 100) (v := ?_) (a' := ?_) #[true, true, true, true, true, true, true, true, true, true, true] rfl rfl (any_of HT_.out (by kernel_rfl)) (fun _ _ _ h => h) (Or.inl ⟨by rfl, ?_⟩) ?_ ?_
                              rotate_left
                              · intro w'
                                go_simp
                                with_reducible rfl
                              rotate_left
                              · simp only [Act.put, List.setIfInBounds_toArray, List.set_cons_zero, List.set_cons_succ, i64_w, i32_w]
                                rfl
                              refine done_ (done_of HT_.out (by kernel_rfl)) ?_
                              try go_wp2
                              go_roundg k3
                              case measure => have := HJ2.out; have := HK2.out; have := HK3.out; omega
                              case rel => exact ⟨(wrap64 (x85_3 + 1)), (by first | rfl | (simp; done) | (simp [*]; done)), H', ⟨by have := HJ2.out; have := HK2.out; have := HK3.out; omega⟩, ⟨by (with_reducible repeat (first | apply Kd.R_alloc | apply Kd.R_drewN | apply Kd.R_drew)); exact HO_83.out⟩, ⟨by (with_reducible repeat (first | apply Kd.V_alloc | apply Kd.V_drewN | apply Kd.V_drew)); exact HO_245002.out⟩, ⟨by (with_reducible repeat (first | apply Kd.R_alloc | apply Kd.R_drewN | apply Kd.R_drew)); exact HO_254002.out⟩, ⟨by (with_reducible repeat (first | refine blk_drewN ?_ _ | refine blk_drew ?_ | refine blk_alloc ?_ _)); exact BK237.out⟩, ⟨by (with_reducible repeat (first | refine blk_drewN ?_ _ | refine blk_drew ?_ | refine blk_alloc ?_ _)); exact BK244.out⟩, ⟨by (with_reducible repeat (first | refine blk_drewN ?_ _ | refine blk_drew ?_ | refine blk_alloc ?_ _)); exact BK253.out⟩, ⟨by repeat (first | (with_reducible first | exact HB.out | apply below_alloc | apply pw_below_drewN | apply below_drew1 | refine below_set ?_ GE237.out | refine below_set ?_ GE244.out | refine below_set ?_ GE253.out) | exact HB.out)⟩⟩
                            · rw [if_neg c54] at H
                              have c54b0 : ((rd t250 x85_3) == t268) = false := beq_eq_false_iff_ne.mpr c54
                              have c54b1 : ((rd t250 x85_3) != t268) = true := bne_iff_ne.mpr c54
                              exact absurd ((Option.some.inj H).trans hrt.out) (by decide)
                          · rw [if_neg c51] at H
                            exact absurd H (by simp)
                        · rw [if_neg c50] at H
                          exact absurd H (by simp)
                      · rw [if_neg c49] at H
                        have c49b0 : decide (x85_3 < (t250.length : Int)) = false := decide_eq_false c49
                        clear c49
                        replace H := Option.bind_eq_some_iff.mp H
                        obtain ⟨t269, A570, H⟩ := H
                        replace H : (if t269 = true then ((rillmeterlaw10_ref.f t245 t246 t247).bind fun bt270 => ((rillmeterref10_Add.f k3 t239 t240 t241 a1).bind fun bt275 => ((rillmeterref10_Equal.f k3 bt270.1 bt270.2.1 bt270.2.2 bt275.1 bt275.2.1 bt275.2.2).bind fun t280 => (if t280 = true then ((bloom_Has.f k3 a0_0 a0_1 l0_2 a1).bind fun t281 => ((rillmeterref10_Has.f k3 t239 t240 t241 a1).bind fun t282 => (if (t281 == t282) = true then ((bloom_Set.f k3 a0_0 a0_1 l0_2).bind fun t283 => (if t283 = x8_2 then ((rillmeterlaw10_awake.f k3).bind fun t284 => (some t284)) else (some false))) else (some false)))) else (some false))))) else (some false)) = some r := H
                        have A57 := Aside0.mk A570
                        clear A570
                        by_cases c58 : t269 = true
                        · subst c58
                          have H1 : ((rillmeterlaw10_ref.f t245 t246 t247).bind fun bt270 => ((rillmeterref10_Add.f k3 t239 t240 t241 a1).bind fun bt275 => ((rillmeterref10_Equal.f k3 bt270.1 bt270.2.1 bt270.2.2 bt275.1 bt275.2.1 bt275.2.2).bind fun t280 => (if t280 = true then ((bloom_Has.f k3 a0_0 a0_1 l0_2 a1).bind fun t281 => ((rillmeterref10_Has.f k3 t239 t240 t241 a1).bind fun t282 => (if (t281 == t282) = true then ((bloom_Set.f k3 a0_0 a0_1 l0_2).bind fun t283 => (if t283 = x8_2 then ((rillmeterlaw10_awake.f k3).bind fun t284 => (some t284)) else (some false))) else (some false)))) else (some false))))) = some r := by rw [if_pos rfl] at H; exact H
                          clear H
                          have H := H1
                          clear H1
                          replace H := Option.bind_eq_some_iff.mp H
                          obtain ⟨⟨t270, t271, t272⟩, A590, H⟩ := H
                          replace H : ((rillmeterref10_Add.f k3 t239 t240 t241 a1).bind fun bt275 => ((rillmeterref10_Equal.f k3 t270 t271 t272 bt275.1 bt275.2.1 bt275.2.2).bind fun t280 => (if t280 = true then ((bloom_Has.f k3 a0_0 a0_1 l0_2 a1).bind fun t281 => ((rillmeterref10_Has.f k3 t239 t240 t241 a1).bind fun t282 => (if (t281 == t282) = true then ((bloom_Set.f k3 a0_0 a0_1 l0_2).bind fun t283 => (if t283 = x8_2 then ((rillmeterlaw10_awake.f k3).bind fun t284 => (some t284)) else (some false))) else (some false)))) else (some false)))) = some r := H
                          have A59 := Aside0.mk A590
                          clear A590
                          replace H := Option.bind_eq_some_iff.mp H
                          obtain ⟨⟨t275, t276, t277⟩, A600, H⟩ := H
                          replace H : ((rillmeterref10_Equal.f k3 t270 t271 t272 t275 t276 t277).bind fun t280 => (if t280 = true then ((bloom_Has.f k3 a0_0 a0_1 l0_2 a1).bind fun t281 => ((rillmeterref10_Has.f k3 t239 t240 t241 a1).bind fun t282 => (if (t281 == t282) = true then ((bloom_Set.f k3 a0_0 a0_1 l0_2).bind fun t283 => (if t283 = x8_2 then ((rillmeterlaw10_awake.f k3).bind fun t284 => (some t284)) else (some false))) else (some false)))) else (some false))) = some r := H
                          have A60 := Aside0.mk A600
                          clear A600
                          replace H := Option.bind_eq_some_iff.mp H
                          obtain ⟨t280, A610, H⟩ := H
                          replace H : (if t280 = true then ((bloom_Has.f k3 a0_0 a0_1 l0_2 a1).bind fun t281 => ((rillmeterref10_Has.f k3 t239 t240 t241 a1).bind fun t282 => (if (t281 == t282) = true then ((bloom_Set.f k3 a0_0 a0_1 l0_2).bind fun t283 => (if t283 = x8_2 then ((rillmeterlaw10_awake.f k3).bind fun t284 => (some t284)) else (some false))) else (some false)))) else (some false)) = some r := H
                          have A61 := Aside0.mk A610
                          clear A610
                          by_cases c62 : t280 = true
                          · subst c62
                            have H1 : ((bloom_Has.f k3 a0_0 a0_1 l0_2 a1).bind fun t281 => ((rillmeterref10_Has.f k3 t239 t240 t241 a1).bind fun t282 => (if (t281 == t282) = true then ((bloom_Set.f k3 a0_0 a0_1 l0_2).bind fun t283 => (if t283 = x8_2 then ((rillmeterlaw10_awake.f k3).bind fun t284 => (some t284)) else (some false))) else (some false)))) = some r := by rw [if_pos rfl] at H; exact H
                            clear H
                            have H := H1
                            clear H1
                            replace H := Option.bind_eq_some_iff.mp H
                            obtain ⟨t281, A630, H⟩ := H
                            replace H : ((rillmeterref10_Has.f k3 t239 t240 t241 a1).bind fun t282 => (if (t281 == t282) = true then ((bloom_Set.f k3 a0_0 a0_1 l0_2).bind fun t283 => (if t283 = x8_2 then ((rillmeterlaw10_awake.f k3).bind fun t284 => (some t284)) else (some false))) else (some false))) = some r := H
                            have A63 := Aside0.mk A630
                            clear A630
                            replace H := Option.bind_eq_some_iff.mp H
                            obtain ⟨t282, A640, H⟩ := H
                            replace H : (if (t281 == t282) = true then ((bloom_Set.f k3 a0_0 a0_1 l0_2).bind fun t283 => (if t283 = x8_2 then ((rillmeterlaw10_awake.f k3).bind fun t284 => (some t284)) else (some false))) else (some false)) = some r := H
                            have A64 := Aside0.mk A640
                            clear A640
                            by_cases c65 : (t281 == t282) = true
                            · rw [if_pos c65] at H
                              have c65b0 : (t281 == t282) = true := c65
                              (try (have c65b1 : decide (t281 = t282) = true := by simpa using c65))
                              (try (have c65b2 : (t281 == t282) = true := by simpa using c65))
                              clear c65
                              replace H := Option.bind_eq_some_iff.mp H
                              obtain ⟨t283, A660, H⟩ := H
                              replace H : (if t283 = x8_2 then ((rillmeterlaw10_awake.f k3).bind fun t284 => (some t284)) else (some false)) = some r := H
                              have A66 := Aside0.mk A660
                              clear A660
                              by_cases c67 : t283 = x8_2
                              · rw [if_pos c67] at H
                                have c67b0 : (t283 == x8_2) = true := beq_iff_eq.mpr c67
                                have c67b1 : (t283 != x8_2) = false := bne_eq_false_iff_eq.mpr c67
                                clear c67
                                replace H := Option.bind_eq_some_iff.mp H
                                obtain ⟨t284, A680, H⟩ := H
                                replace H : (some t284) = some r := H
                                have A68 := Aside0.mk A680
                                clear A680
                                obtain rfl := Option.some.inj H
                                try go_wp2
                                have n0_ := Aside0.mk (Kd.R_drew HO_83.out)
                                have n1_ := Aside0.mk (Kd.V_drew HO_245002.out)
                                have n2_ := Aside0.mk (Kd.R_drew HO_254002.out)
                                have n3_ := Aside0.mk (blk_drew BK237.out)
                                have n4_ := Aside0.mk (blk_drew BK244.out)
                                have n5_ := Aside0.mk (blk_drew BK253.out)
                                have n6_ := Aside0.mk (below_drew1 HB.out)
                                clear HO_83
                                clear HO_245002
                                clear HO_254002
                                clear BK237
                                clear BK244
                                clear BK253
                                clear HB
                                have HO_83 := n0_
                                have HO_245002 := n1_
                                have HO_254002 := n2_
                                have BK237 := n3_
                                have BK244 := n4_
                                have BK253 := n5_
                                have HB := n6_
                                clear n0_ n1_ n2_ n3_ n4_ n5_ n6_
                                refine start_ (n := 29) (S := fun w' => w'.cell? ⟨gb237, 0, none⟩ = some (.int .u64 a0_0) ∧ w'.cell? ⟨gb237, 1, none⟩ = some (.int .i64 a0_1) ∧ w'.cell? ⟨gb237, 2, none⟩ = some (.slice A0_2 l0_2.length c0_2) ∧ w'.cell? ⟨gb253, 0, none⟩ = some (.int .u64 t245) ∧ w'.cell? ⟨gb253, 1, none⟩ = some (.int .i64 t246) ∧ w'.cell? ⟨gb253, 2, none⟩ = some (.slice Ao30 t247.length co30) ∧ w'.cell? ⟨gb244, 0, none⟩ = some (.int .u64 t239) ∧ w'.cell? ⟨gb244, 1, none⟩ = some (.int .i64 t240) ∧ w'.cell? ⟨gb244, 2, none⟩ = some (.slice Ao21 t241.length co21)) (ds := []) #[false, false, false, false, false, false, false, false, false, false, false, false, false, false, false, false, false, false, false, false, false, false, false, false, false, false, false, false, false] (by kernel_rfl) rfl rfl ⟨(blk_cell BK237.out 0).trans rfl, (blk_cell BK237.out 1).trans rfl, (blk_cell BK237.out 2).trans rfl, (blk_cell BK253.out 0).trans rfl, (blk_cell BK253.out 1).trans rfl, (blk_cell BK253.out 2).trans rfl, (blk_cell BK244.out 0).trans rfl, (blk_cell BK244.out 1).trans rfl, (blk_cell BK244.out 2).trans rfl⟩ (fun hHeld => ?_); refine with_tabW rillmeterlaw10_BloomTurns.tab22 rillmeterlaw10_BloomTurns.bits22 (fun HT_ HW_ => ?_)
                                generalize wr.drew = w69 at HO_83 HO_245002 HO_254002 BK237 BK244 BK253 HB hHeld ⊢
                                refine take_ (i := 0) (N := some 102) (v := ?_) (a' := ?_) #[true, false, false, false, false, false, false, false, false, false, false, false, false, false, false, false, false, false, false, false, false, false, false, false, false, false, false, false, false] rfl rfl (take_ofW HT_.out HW_.out (by kernel_rfl)) (fun _ _ _ h => h) (Or.inl ⟨by rfl, ?_⟩) hHeld ?_ ?_
                                rotate_left
                                · rintro w' ⟨s0, s1, s2, s3, s4, s5, s6, s7, s8⟩
                                  go_simp
                                  with_reducible rfl
                                rotate_left
                                · simp only [Act.put, List.setIfInBounds_toArray, List.set_cons_zero, List.set_cons_succ, i64_w, i32_w]
                                  rfl
                                refine one_ (i := 1) (N := some 103) #[true, true, false, false, false, false, false, false, false, false, false, false, false, false, false, false, false, false, false, false, false, false, false, false, false, false, false, false, false] rfl rfl (one_of HT_.out (by kernel_rfl)) (by decide) (fun K hK => ?_)
                                refine goes_ Try.func14 (by kernel_rfl) rfl #[.agg #[.int .u64 a0_0, .int .i64 a0_1, .slice A0_2 l0_2.length c0_2]] (by rfl) rfl rfl (by (try simp only [List.map_toArray, List.map_cons, List.map_nil]); first | done | rfl | (simp only [List.length_drop, List.length_take]; rfl)) ?_
                                with_reducible refine (bloom_Right.calls a0_0 a0_1 _ _ l0_2 true _ ?side1 ?side2 A57.out).mono ?_
                                (case side1 => repeat (first | exact (Kd.C_below HR0_2.out HB.out) | (with_reducible refine Kd.C_alloc ?_ _) | (with_reducible refine Kd.C_drewN ?_ _) | (with_reducible refine Kd.C_drew ?_)))
                                (case side2 => exact HC0_2.out)
                                rintro e w70 ⟨rfl, hb⟩
                                refine ⟨_, rfl, ?_⟩
                                have n0_ := Aside0.mk (Kd.R_below (by (with_reducible repeat (first | apply Kd.R_alloc | apply Kd.R_drewN | apply Kd.R_drew)); exact HO_83.out) hb)
                                have n1_ := Aside0.mk (Kd.V_below (by (with_reducible repeat (first | apply Kd.V_alloc | apply Kd.V_drewN | apply Kd.V_drew)); exact HO_245002.out) hb)
                                have n2_ := Aside0.mk (Kd.R_below (by (with_reducible repeat (first | apply Kd.R_alloc | apply Kd.R_drewN | apply Kd.R_drew)); exact HO_254002.out) hb)
                                have n3_ := Aside0.mk (blk_below (g := gb237) (o := .cells #[.int .u64 a0_0, .int .i64 a0_1, .slice A0_2 l0_2.length c0_2] 25 (0, 0)) (by (with_reducible repeat (first | refine blk_drewN ?_ _ | refine blk_drew ?_ | refine blk_alloc ?_ _)); exact BK237.out) hb)
                                have n4_ := Aside0.mk (blk_below (g := gb244) (o := .cells #[.int .u64 t239, .int .i64 t240, .slice Ao21 t241.length co21] 30 (0, 0)) (by (with_reducible repeat (first | refine blk_drewN ?_ _ | refine blk_drew ?_ | refine blk_alloc ?_ _)); exact BK244.out) hb)
                                have n5_ := Aside0.mk (blk_below (g := gb253) (o := .cells #[.int .u64 t245, .int .i64 t246, .slice Ao30 t247.length co30] 25 (0, 0)) (by (with_reducible repeat (first | refine blk_drewN ?_ _ | refine blk_drew ?_ | refine blk_alloc ?_ _)); exact BK253.out) hb)
                                have n6_ := Aside0.mk (below_step (by repeat (first | (with_reducible first | exact HB.out | apply below_alloc | apply pw_below_drewN | apply below_drew1 | refine below_set ?_ GE237.out | refine below_set ?_ GE244.out | refine below_set ?_ GE253.out) | exact HB.out)) hb)
                                clear HO_83
                                clear HO_245002
                                clear HO_254002
                                clear BK237
                                clear BK244
                                clear BK253
                                clear HB
                                have HO_83 := n0_
                                have HO_245002 := n1_
                                have HO_254002 := n2_
                                have BK237 := n3_
                                have BK244 := n4_
                                have BK253 := n5_
                                have HB := n6_
                                clear n0_ n1_ n2_ n3_ n4_ n5_ n6_
                                (try clear hb)
                                (try clear hb2)
                                (try clear hk)
                                (try clear hi)
                                refine hK.out _ _ ⟨(blk_cell BK237.out 0).trans rfl, (blk_cell BK237.out 1).trans rfl, (blk_cell BK237.out 2).trans rfl, (blk_cell BK253.out 0).trans rfl, (blk_cell BK253.out 1).trans rfl, (blk_cell BK253.out 2).trans rfl, (blk_cell BK244.out 0).trans rfl, (blk_cell BK244.out 1).trans rfl, (blk_cell BK244.out 2).trans rfl⟩ (fun hHeld => ?_)
                                clear hK K
                                refine norm_ (a' := ?_) ?_ ?_
                                rotate_left
                                · show Act.put _ (some 103) _ = _
                                  simp only [Act.put, List.setIfInBounds_toArray, List.set_cons_zero, List.set_cons_succ, i64_w, i32_w]
                                  rfl
                                refine pure_ (i := 2) (N := some 104) (v := ?_) (a' := ?_) #[true, true, true, false, false, false, false, false, false, false, false, false, false, false, false, false, false, false, false, false, false, false, false, false, false, false, false, false, false] rfl rfl (any_of HT_.out (by kernel_rfl)) (fun _ _ _ h => h) (Or.inl ⟨by rfl, ?_⟩) ?_ ?_
                                rotate_left
                                · intro w'
                                  go_simp
                                  with_reducible rfl
                                rotate_left
                                · simp only [Act.put, List.setIfInBounds_toArray, List.set_cons_zero, List.set_cons_succ, i64_w, i32_w]
                                  rfl
                                refine pure_ (i := 6) (N := some 108) (v := ?_) (a' := ?_) #[true, true, true, false, false, false, true, false, false, false, false, false, false, false, false, false, false, false, false, false, false, false, false, false, false, false, false, false, false] rfl rfl (any_of HT_.out (by kernel_rfl)) (fun _ _ _ h => h) (Or.inl ⟨by rfl, ?_⟩) ?_ ?_
                                rotate_left
                                · intro w'
                                  go_simp
                                  with_reducible rfl
                                rotate_left
                                · simp only [Act.put, List.setIfInBounds_toArray, List.set_cons_zero, List.set_cons_succ, i64_w, i32_w]
                                  rfl
                                refine take_ (i := 3) (N := some 105) (v := ?_) (a' := ?_) #[true, true, true, true, false, false, true, false, false, false, false, false, false, false, false, false, false, false, false, false, false, false, false, false, false, false, false, false, false] rfl rfl (take_ofW HT_.out HW_.out (by kernel_rfl)) (fun _ _ _ h => h) (Or.inl ⟨by rfl, ?_⟩) hHeld ?_ ?_
                                rotate_left
                                · rintro w' ⟨s0, s1, s2, s3, s4, s5, s6, s7, s8⟩
                                  go_simp
                                  with_reducible rfl
                                rotate_left
                                · simp only [Act.put, List.setIfInBounds_toArray, List.set_cons_zero, List.set_cons_succ, i64_w, i32_w]
                                  rfl
                                refine take_ (i := 5) (N := some 107) (v := ?_) (a' := ?_) #[true, true, true, true, false, true, true, false, false, false, false, false, false, false, false, false, false, false, false, false, false, false, false, false, false, false, false, false, false] rfl rfl (take_ofW HT_.out HW_.out (by kernel_rfl)) (fun _ _ _ h => h) (Or.inl ⟨by rfl, ?_⟩) hHeld ?_ ?_
                                rotate_left
                                · rintro w' ⟨s0, s1, s2, s3, s4, s5, s6, s7, s8⟩
                                  go_simp
                                  with_reducible rfl
                                rotate_left
                                · simp only [Act.put, List.setIfInBounds_toArray, List.set_cons_zero, List.set_cons_succ, i64_w, i32_w]
                                  rfl
                                refine one_ (i := 4) (N := some 106) #[true, true, true, true, true, true, true, false, false, false, false, false, false, false, false, false, false, false, false, false, false, false, false, false, false, false, false, false, false] rfl rfl (one_of HT_.out (by kernel_rfl)) (by decide) (fun K hK => ?_)
                                refine goes_ Try.func11 (by kernel_rfl) rfl #[.agg #[.int .u64 t245, .int .i64 t246, .slice Ao30 t247.length co30]] (by rfl) rfl rfl (by (try simp only [List.map_toArray, List.map_cons, List.map_nil]); first | done | rfl | (simp only [List.length_drop, List.length_take]; rfl)) ?_
                                with_reducible refine (rillmeterlaw10_ref.calls t245 t246 (fun k_ => some k_ = (.slice Ao30 t247.length co30 : Value).ownBlock) _ _ t247 t270 t271 t272 _ ?side1 A59.out).mono ?_
                                (case side1 => exact Kd.R_V (Kd.R_tight rfl (Kd.R_types (Kd.R_types (Kd.R_types (Kd.R_apart' (HO_254002.out) (Kd.R_typed HO_83.out) (by decide)) BK237.out (by decide)) BK244.out (by decide)) BK253.out (by decide))))
                                rintro e w71 ⟨v273, rfl, ho0, hb⟩
                                refine ⟨_, rfl, ?_⟩
                                have n0_ := Aside0.mk (Kd.R_below (by (with_reducible repeat (first | apply Kd.R_alloc | apply Kd.R_drewN | apply Kd.R_drew)); exact HO_83.out) hb)
                                have n1_ := Aside0.mk (Kd.V_below (by (with_reducible repeat (first | apply Kd.V_alloc | apply Kd.V_drewN | apply Kd.V_drew)); exact HO_245002.out) hb)
                                have n2_ := Aside0.mk (Kd.R_below (by (with_reducible repeat (first | apply Kd.R_alloc | apply Kd.R_drewN | apply Kd.R_drew)); exact HO_254002.out) hb)
                                have n3_ := Aside0.mk (Kd.V_lower (Kd.V_mono (ok' := fun k_ => some k_ ≠ (.slice Ao46 t250.length co46 : Value).ownBlock ∧ k_ ≠ gb237 ∧ k_ ≠ gb244 ∧ k_ ≠ gb253) ho0 (fun k_ hk_ => ⟨Or.elim hk_ (fun hs_ => ((Kd.R_types (Kd.R_types (Kd.R_types (Kd.R_apart' (HO_254002.out) (Kd.R_typed HO_83.out) (by decide)) BK237.out (by decide)) BK244.out (by decide)) BK253.out (by decide)).1 k_ hs_.symm).1.1.1.2) (fun hn_ => (Kd.fresh' (Kd.R_lt (by (with_reducible repeat (first | apply Kd.R_alloc | apply Kd.R_drewN | apply Kd.R_drew)); exact HO_83.out)) k_ hn_)), Or.elim hk_ (fun hs_ => ((Kd.R_types (Kd.R_types (Kd.R_types (Kd.R_apart' (HO_254002.out) (Kd.R_typed HO_83.out) (by decide)) BK237.out (by decide)) BK244.out (by decide)) BK253.out (by decide)).1 k_ hs_.symm).1.1.2) (fun hn_ => (Kd.freshB (g := gb237) (o := .cells #[.int .u64 a0_0, .int .i64 a0_1, .slice A0_2 l0_2.length c0_2] 25 (0, 0)) (by (with_reducible repeat (first | refine blk_drewN ?_ _ | refine blk_drew ?_ | refine blk_alloc ?_ _)); exact BK237.out) k_ hn_)), Or.elim hk_ (fun hs_ => ((Kd.R_types (Kd.R_types (Kd.R_types (Kd.R_apart' (HO_254002.out) (Kd.R_typed HO_83.out) (by decide)) BK237.out (by decide)) BK244.out (by decide)) BK253.out (by decide)).1 k_ hs_.symm).1.2) (fun hn_ => (Kd.freshB (g := gb244) (o := .cells #[.int .u64 t239, .int .i64 t240, .slice Ao21 t241.length co21] 30 (0, 0)) (by (with_reducible repeat (first | refine blk_drewN ?_ _ | refine blk_drew ?_ | refine blk_alloc ?_ _)); exact BK244.out) k_ hn_)), Or.elim hk_ (fun hs_ => ((Kd.R_types (Kd.R_types (Kd.R_types (Kd.R_apart' (HO_254002.out) (Kd.R_typed HO_83.out) (by decide)) BK237.out (by decide)) BK244.out (by decide)) BK253.out (by decide)).1 k_ hs_.symm).2) (fun hn_ => (Kd.freshB (g := gb253) (o := .cells #[.int .u64 t245, .int .i64 t246, .slice Ao30 t247.length co30] 25 (0, 0)) (by (with_reducible repeat (first | refine blk_drewN ?_ _ | refine blk_drew ?_ | refine blk_alloc ?_ _)); exact BK253.out) k_ hn_))⟩)) (below_size (by repeat (first | (with_reducible first | exact HB.out | apply below_alloc | apply pw_below_drewN | apply below_drew1 | refine below_set ?_ GE237.out | refine below_set ?_ GE244.out | refine below_set ?_ GE253.out) | exact HB.out))))
                                have n4_ := Aside0.mk (blk_below (g := gb237) (o := .cells #[.int .u64 a0_0, .int .i64 a0_1, .slice A0_2 l0_2.length c0_2] 25 (0, 0)) (by (with_reducible repeat (first | refine blk_drewN ?_ _ | refine blk_drew ?_ | refine blk_alloc ?_ _)); exact BK237.out) hb)
                                have n5_ := Aside0.mk (blk_below (g := gb244) (o := .cells #[.int .u64 t239, .int .i64 t240, .slice Ao21 t241.length co21] 30 (0, 0)) (by (with_reducible repeat (first | refine blk_drewN ?_ _ | refine blk_drew ?_ | refine blk_alloc ?_ _)); exact BK244.out) hb)
                                have n6_ := Aside0.mk (blk_below (g := gb253) (o := .cells #[.int .u64 t245, .int .i64 t246, .slice Ao30 t247.length co30] 25 (0, 0)) (by (with_reducible repeat (first | refine blk_drewN ?_ _ | refine blk_drew ?_ | refine blk_alloc ?_ _)); exact BK253.out) hb)
                                have n7_ := Aside0.mk (below_step (by repeat (first | (with_reducible first | exact HB.out | apply below_alloc | apply pw_below_drewN | apply below_drew1 | refine below_set ?_ GE237.out | refine below_set ?_ GE244.out | refine below_set ?_ GE253.out) | exact HB.out)) hb)
                                clear HO_83
                                clear HO_245002
                                clear HO_254002
                                clear BK237
                                clear BK244
                                clear BK253
                                clear HB
                                have HO_83 := n0_
                                have HO_245002 := n1_
                                have HO_254002 := n2_
                                have HO274 := n3_
                                have BK237 := n4_
                                have BK244 := n5_
                                have BK253 := n6_
                                have HB := n7_
                                clear n0_ n1_ n2_ n3_ n4_ n5_ n6_ n7_
                                (try clear hb)
                                (try clear hb2)
                                (try clear hk)
                                (try clear hi)
                                (try clear ho0)
                                refine hK.out _ _ ⟨(blk_cell BK237.out 0).trans rfl, (blk_cell BK237.out 1).trans rfl, (blk_cell BK237.out 2).trans rfl, (blk_cell BK253.out 0).trans rfl, (blk_cell BK253.out 1).trans rfl, (blk_cell BK253.out 2).trans rfl, (blk_cell BK244.out 0).trans rfl, (blk_cell BK244.out 1).trans rfl, (blk_cell BK244.out 2).trans rfl⟩ (fun hHeld => ?_)
                                clear hK K
                                refine norm_ (a' := ?_) ?_ ?_
                                rotate_left
                                · show Act.put _ (some 106) _ = _
                                  simp only [Act.put, List.setIfInBounds_toArray, List.set_cons_zero, List.set_cons_succ, i64_w, i32_w]
                                  rfl
                                refine one_ (i := 7) (N := some 109) #[true, true, true, true, true, true, true, true, false, false, false, false, false, false, false, false, false, false, false, false, false, false, false, false, false, false, false, false, false] rfl rfl (one_of HT_.out (by kernel_rfl)) (by decide) (fun K hK => ?_)
                                refine goes_ Try.func22 (by kernel_rfl) rfl #[.agg #[.int .u64 t239, .int .i64 t240, .slice Ao21 t241.length co21], .string a1] (by rfl) rfl rfl (by (try simp only [List.map_toArray, List.map_cons, List.map_nil]); first | done | rfl | (simp only [List.length_drop, List.length_take]; rfl)) ?_
                                with_reducible refine (rillmeterref10_Add.calls k3 t239 t240 _ _ t241 a1 t275 t276 t277 _ ?side1 ?side2 A60.out).mono ?_
                                (case side1 => repeat (first | exact (Kd.V_reads' HO_245002.out).2.2 | (with_reducible refine Kd.C_alloc ?_ _) | (with_reducible refine Kd.C_drewN ?_ _) | (with_reducible refine Kd.C_drew ?_)))
                                (case side2 => exact (Kd.V_reads' HO_245002.out).2.1)
                                rintro e w72 ⟨v278, rfl, ho0, hb⟩
                                refine ⟨_, rfl, ?_⟩
                                have n0_ := Aside0.mk (Kd.R_below (by (with_reducible repeat (first | apply Kd.R_alloc | apply Kd.R_drewN | apply Kd.R_drew)); exact HO_83.out) hb)
                                have n1_ := Aside0.mk (Kd.V_elder' (by (with_reducible repeat (first | apply Kd.V_alloc | apply Kd.V_drewN | apply Kd.V_drew)); exact HO_245002.out) (Kd.R_base ho0) hb)
                                have n2_ := Aside0.mk (Kd.R_elder' (by (with_reducible repeat (first | apply Kd.R_alloc | apply Kd.R_drewN | apply Kd.R_drew)); exact HO_254002.out) (Kd.R_base ho0) hb)
                                have n3_ := Aside0.mk (Kd.V_elder' (by (with_reducible repeat (first | apply Kd.V_alloc | apply Kd.V_drewN | apply Kd.V_drew)); exact HO274.out) (Kd.R_base ho0) hb)
                                have n4_ := Aside0.mk (Kd.R_lower (Kd.R_new' ho0 (Kd.R_lt (by (with_reducible repeat (first | apply Kd.R_alloc | apply Kd.R_drewN | apply Kd.R_drew)); exact HO_254002.out))) (below_size (by repeat (first | (with_reducible first | exact HB.out | apply below_alloc | apply pw_below_drewN | apply below_drew1 | refine below_set ?_ GE237.out | refine below_set ?_ GE244.out | refine below_set ?_ GE253.out) | exact HB.out))))
                                have n5_ := Aside0.mk (blk_below (g := gb237) (o := .cells #[.int .u64 a0_0, .int .i64 a0_1, .slice A0_2 l0_2.length c0_2] 25 (0, 0)) (by (with_reducible repeat (first | refine blk_drewN ?_ _ | refine blk_drew ?_ | refine blk_alloc ?_ _)); exact BK237.out) hb)
                                have n6_ := Aside0.mk (blk_below (g := gb244) (o := .cells #[.int .u64 t239, .int .i64 t240, .slice Ao21 t241.length co21] 30 (0, 0)) (by (with_reducible repeat (first | refine blk_drewN ?_ _ | refine blk_drew ?_ | refine blk_alloc ?_ _)); exact BK244.out) hb)
                                have n7_ := Aside0.mk (blk_below (g := gb253) (o := .cells #[.int .u64 t245, .int .i64 t246, .slice Ao30 t247.length co30] 25 (0, 0)) (by (with_reducible repeat (first | refine blk_drewN ?_ _ | refine blk_drew ?_ | refine blk_alloc ?_ _)); exact BK253.out) hb)
                                have n8_ := Aside0.mk (below_step (by repeat (first | (with_reducible first | exact HB.out | apply below_alloc | apply pw_below_drewN | apply below_drew1 | refine below_set ?_ GE237.out | refine below_set ?_ GE244.out | refine below_set ?_ GE253.out) | exact HB.out)) hb)
                                clear HO_83
                                clear HO_245002
                                clear HO_254002
                                clear HO274
                                clear BK237
                                clear BK244
                                clear BK253
                                clear HB
                                have HO_83 := n0_
                                have HO_245002 := n1_
                                have HO_254002 := n2_
                                have HO274 := n3_
                                have HO279 := n4_
                                have BK237 := n5_
                                have BK244 := n6_
                                have BK253 := n7_
                                have HB := n8_
                                clear n0_ n1_ n2_ n3_ n4_ n5_ n6_ n7_ n8_
                                (try clear hb)
                                (try clear hb2)
                                (try clear hk)
                                (try clear hi)
                                (try clear ho0)
                                obtain ⟨Ao73, co73, eo73⟩ := Kd.V_slice HO274.out
                                (first | subst eo73 | (injection eo73 with f1_ f2_ f3_; have f4_ := f1_.symm; have f5_ := f3_.symm; clear f1_ f2_ f3_; subst f4_; subst f5_))
                                obtain ⟨Ao74, co74, eo74⟩ := Kd.R_slice HO279.out
                                (first | subst eo74 | (injection eo74 with f1_ f2_ f3_; have f4_ := f1_.symm; have f5_ := f3_.symm; clear f1_ f2_ f3_; subst f4_; subst f5_))
                                refine hK.out _ _ ⟨(blk_cell BK237.out 0).trans rfl, (blk_cell BK237.out 1).trans rfl, (blk_cell BK237.out 2).trans rfl, (blk_cell BK253.out 0).trans rfl, (blk_cell BK253.out 1).trans rfl, (blk_cell BK253.out 2).trans rfl, (blk_cell BK244.out 0).trans rfl, (blk_cell BK244.out 1).trans rfl, (blk_cell BK244.out 2).trans rfl⟩ (fun hHeld => ?_)
                                clear hK K
                                refine norm_ (a' := ?_) ?_ ?_
                                rotate_left
                                · show Act.put _ (some 109) _ = _
                                  simp only [Act.put, List.setIfInBounds_toArray, List.set_cons_zero, List.set_cons_succ, i64_w, i32_w]
                                  rfl
                                refine one_ (i := 8) (N := some 110) #[true, true, true, true, true, true, true, true, true, false, false, false, false, false, false, false, false, false, false, false, false, false, false, false, false, false, false, false, false] rfl rfl (one_of HT_.out (by kernel_rfl)) (by decide) (fun K hK => ?_)
                                refine goes_ Try.func10 (by kernel_rfl) rfl #[.agg #[.int .u64 t270, .int .i64 t271, .slice Ao73 t272.length co73], .agg #[.int .u64 t275, .int .i64 t276, .slice Ao74 t277.length co74]] (by rfl) rfl rfl (by (try simp only [List.map_toArray, List.map_cons, List.map_nil]); first | done | rfl | (simp only [List.length_drop, List.length_take]; rfl)) ?_
                                with_reducible refine (rillmeterref10_Equal.calls k3 t270 t271 _ _ t272 t275 t276 _ _ t277 true _ ?side1 ?side2 ?side3 ?side4 A61.out).mono ?_
                                (case side1 => repeat (first | exact (Kd.V_reads' HO274.out).2.2 | (with_reducible refine Kd.C_alloc ?_ _) | (with_reducible refine Kd.C_drewN ?_ _) | (with_reducible refine Kd.C_drew ?_)))
                                (case side2 => exact (Kd.V_reads' HO274.out).2.1)
                                (case side3 => repeat (first | exact (Kd.R_reads' HO279.out).2.2 | (with_reducible refine Kd.C_alloc ?_ _) | (with_reducible refine Kd.C_drewN ?_ _) | (with_reducible refine Kd.C_drew ?_)))
                                (case side4 => exact (Kd.R_reads' HO279.out).2.1)
                                rintro e w75 ⟨rfl, hb⟩
                                refine ⟨_, rfl, ?_⟩
                                have n0_ := Aside0.mk (Kd.R_below (by (with_reducible repeat (first | apply Kd.R_alloc | apply Kd.R_drewN | apply Kd.R_drew)); exact HO_83.out) hb)
                                have n1_ := Aside0.mk (Kd.V_below (by (with_reducible repeat (first | apply Kd.V_alloc | apply Kd.V_drewN | apply Kd.V_drew)); exact HO_245002.out) hb)
                                have n2_ := Aside0.mk (Kd.R_below (by (with_reducible repeat (first | apply Kd.R_alloc | apply Kd.R_drewN | apply Kd.R_drew)); exact HO_254002.out) hb)
                                have n3_ := Aside0.mk (Kd.V_below (by (with_reducible repeat (first | apply Kd.V_alloc | apply Kd.V_drewN | apply Kd.V_drew)); exact HO274.out) hb)
                                have n4_ := Aside0.mk (Kd.R_below (by (with_reducible repeat (first | apply Kd.R_alloc | apply Kd.R_drewN | apply Kd.R_drew)); exact HO279.out) hb)
                                have n5_ := Aside0.mk (blk_below (g := gb237) (o := .cells #[.int .u64 a0_0, .int .i64 a0_1, .slice A0_2 l0_2.length c0_2] 25 (0, 0)) (by (with_reducible repeat (first | refine blk_drewN ?_ _ | refine blk_drew ?_ | refine blk_alloc ?_ _)); exact BK237.out) hb)
                                have n6_ := Aside0.mk (blk_below (g := gb244) (o := .cells #[.int .u64 t239, .int .i64 t240, .slice Ao21 t241.length co21] 30 (0, 0)) (by (with_reducible repeat (first | refine blk_drewN ?_ _ | refine blk_drew ?_ | refine blk_alloc ?_ _)); exact BK244.out) hb)
                                have n7_ := Aside0.mk (blk_below (g := gb253) (o := .cells #[.int .u64 t245, .int .i64 t246, .slice Ao30 t247.length co30] 25 (0, 0)) (by (with_reducible repeat (first | refine blk_drewN ?_ _ | refine blk_drew ?_ | refine blk_alloc ?_ _)); exact BK253.out) hb)
                                have n8_ := Aside0.mk (below_step (by repeat (first | (with_reducible first | exact HB.out | apply below_alloc | apply pw_below_drewN | apply below_drew1 | refine below_set ?_ GE237.out | refine below_set ?_ GE244.out | refine below_set ?_ GE253.out) | exact HB.out)) hb)
                                clear HO_83
                                clear HO_245002
                                clear HO_254002
                                clear HO274
                                clear HO279
                                clear BK237
                                clear BK244
                                clear BK253
                                clear HB
                                have HO_83 := n0_
                                have HO_245002 := n1_
                                have HO_254002 := n2_
                                have HO274 := n3_
                                have HO279 := n4_
                                have BK237 := n5_
                                have BK244 := n6_
                                have BK253 := n7_
                                have HB := n8_
                                clear n0_ n1_ n2_ n3_ n4_ n5_ n6_ n7_ n8_
                                (try clear hb)
                                (try clear hb2)
                                (try clear hk)
                                (try clear hi)
                                refine hK.out _ _ ⟨(blk_cell BK237.out 0).trans rfl, (blk_cell BK237.out 1).trans rfl, (blk_cell BK237.out 2).trans rfl, (blk_cell BK253.out 0).trans rfl, (blk_cell BK253.out 1).trans rfl, (blk_cell BK253.out 2).trans rfl, (blk_cell BK244.out 0).trans rfl, (blk_cell BK244.out 1).trans rfl, (blk_cell BK244.out 2).trans rfl⟩ (fun hHeld => ?_)
                                clear hK K
                                refine norm_ (a' := ?_) ?_ ?_
                                rotate_left
                                · show Act.put _ (some 110) _ = _
                                  simp only [Act.put, List.setIfInBounds_toArray, List.set_cons_zero, List.set_cons_succ, i64_w, i32_w]
                                  rfl
                                refine pure_ (i := 9) (N := some 111) (v := ?_) (a' := ?_) #[true, true, true, true, true, true, true, true, true, true, false, false, false, false, false, false, false, false, false, false, false, false, false, false, false, false, false, false, false] rfl rfl (any_of HT_.out (by kernel_rfl)) (fun _ _ _ h => h) (Or.inl ⟨by rfl, ?_⟩) ?_ ?_
                                rotate_left
                                · intro w'
                                  go_simp
                                  with_reducible rfl
                                rotate_left
                                · simp only [Act.put, List.setIfInBounds_toArray, List.set_cons_zero, List.set_cons_succ, i64_w, i32_w]
                                  rfl
                                refine pure_ (i := 10) (N := some 112) (v := ?_) (a' := ?_) #[true, true, true, true, true, true, true, true, true, true, true, false, false, false, false, false, false, false, false, false, false, false, false, false, false, false, false, false, false] rfl rfl (any_of HT_.out (by kernel_rfl)) (fun _ _ _ h => h) (Or.inl ⟨by rfl, ?_⟩) ?_ ?_
                                rotate_left
                                · intro w'
                                  go_simp
                                  with_reducible rfl
                                rotate_left
                                · simp only [Act.put, List.setIfInBounds_toArray, List.set_cons_zero, List.set_cons_succ, i64_w, i32_w]
                                  rfl
                                refine pure_ (i := 12) (N := some 114) (v := ?_) (a' := ?_) #[true, true, true, true, true, true, true, true, true, true, true, false, true, false, false, false, false, false, false, false, false, false, false, false, false, false, false, false, false] rfl rfl (any_of HT_.out (by kernel_rfl)) (fun _ _ _ h => h) (Or.inl ⟨by rfl, ?_⟩) ?_ ?_
                                rotate_left
                                · intro w'
                                  go_simp
                                  with_reducible rfl
                                rotate_left
                                · simp only [Act.put, List.setIfInBounds_toArray, List.set_cons_zero, List.set_cons_succ, i64_w, i32_w]
                                  rfl
                                refine pure_ (i := 15) (N := some 117) (v := ?_) (a' := ?_) #[true, true, true, true, true, true, true, true, true, true, true, false, true, false, false, true, false, false, false, false, false, false, false, false, false, false, false, false, false] rfl rfl (any_of HT_.out (by kernel_rfl)) (fun _ _ _ h => h) (Or.inl ⟨by rfl, ?_⟩) ?_ ?_
                                rotate_left
                                · intro w'
                                  go_simp
                                  with_reducible rfl
                                rotate_left
                                · simp only [Act.put, List.setIfInBounds_toArray, List.set_cons_zero, List.set_cons_succ, i64_w, i32_w]
                                  rfl
                                refine take_ (i := 11) (N := some 113) (v := ?_) (a' := ?_) #[true, true, true, true, true, true, true, true, true, true, true, true, true, false, false, true, false, false, false, false, false, false, false, false, false, false, false, false, false] rfl rfl (take_ofW HT_.out HW_.out (by kernel_rfl)) (fun _ _ _ h => h) (Or.inl ⟨by rfl, ?_⟩) hHeld ?_ ?_
                                rotate_left
                                · rintro w' ⟨s0, s1, s2, s3, s4, s5, s6, s7, s8⟩
                                  go_simp
                                  with_reducible rfl
                                rotate_left
                                · simp only [Act.put, List.setIfInBounds_toArray, List.set_cons_zero, List.set_cons_succ, i64_w, i32_w]
                                  rfl
                                refine take_ (i := 14) (N := some 116) (v := ?_) (a' := ?_) #[true, true, true, true, true, true, true, true, true, true, true, true, true, false, true, true, false, false, false, false, false, false, false, false, false, false, false, false, false] rfl rfl (take_ofW HT_.out HW_.out (by kernel_rfl)) (fun _ _ _ h => h) (Or.inl ⟨by rfl, ?_⟩) hHeld ?_ ?_
                                rotate_left
                                · rintro w' ⟨s0, s1, s2, s3, s4, s5, s6, s7, s8⟩
                                  go_simp
                                  with_reducible rfl
                                rotate_left
                                · simp only [Act.put, List.setIfInBounds_toArray, List.set_cons_zero, List.set_cons_succ, i64_w, i32_w]
                                  rfl
                                refine one_ (i := 13) (N := some 115) #[true, true, true, true, true, true, true, true, true, true, true, true, true, true, true, true, false, false, false, false, false, false, false, false, false, false, false, false, false] rfl rfl (one_of HT_.out (by kernel_rfl)) (by decide) (fun K hK => ?_)
                                refine goes_ Try.func19 (by kernel_rfl) rfl #[.agg #[.int .u64 a0_0, .int .i64 a0_1, .slice A0_2 l0_2.length c0_2], .string a1] (by rfl) rfl rfl (by (try simp only [List.map_toArray, List.map_cons, List.map_nil]); first | done | rfl | (simp only [List.length_drop, List.length_take]; rfl)) ?_
                                with_reducible refine (bloom_Has.calls k3 a0_0 a0_1 _ _ l0_2 a1 t281 _ ?side1 ?side2 A63.out).mono ?_
                                (case side1 => repeat (first | exact (Kd.C_below HR0_2.out HB.out) | (with_reducible refine Kd.C_alloc ?_ _) | (with_reducible refine Kd.C_drewN ?_ _) | (with_reducible refine Kd.C_drew ?_)))
                                (case side2 => exact HC0_2.out)
                                rintro e w76 ⟨rfl, hb⟩
                                refine ⟨_, rfl, ?_⟩
                                have n0_ := Aside0.mk (Kd.R_below (by (with_reducible repeat (first | apply Kd.R_alloc | apply Kd.R_drewN | apply Kd.R_drew)); exact HO_83.out) hb)
                                have n1_ := Aside0.mk (Kd.V_below (by (with_reducible repeat (first | apply Kd.V_alloc | apply Kd.V_drewN | apply Kd.V_drew)); exact HO_245002.out) hb)
                                have n2_ := Aside0.mk (Kd.R_below (by (with_reducible repeat (first | apply Kd.R_alloc | apply Kd.R_drewN | apply Kd.R_drew)); exact HO_254002.out) hb)
                                have n3_ := Aside0.mk (Kd.V_below (by (with_reducible repeat (first | apply Kd.V_alloc | apply Kd.V_drewN | apply Kd.V_drew)); exact HO274.out) hb)
                                have n4_ := Aside0.mk (Kd.R_below (by (with_reducible repeat (first | apply Kd.R_alloc | apply Kd.R_drewN | apply Kd.R_drew)); exact HO279.out) hb)
                                have n5_ := Aside0.mk (blk_below (g := gb237) (o := .cells #[.int .u64 a0_0, .int .i64 a0_1, .slice A0_2 l0_2.length c0_2] 25 (0, 0)) (by (with_reducible repeat (first | refine blk_drewN ?_ _ | refine blk_drew ?_ | refine blk_alloc ?_ _)); exact BK237.out) hb)
                                have n6_ := Aside0.mk (blk_below (g := gb244) (o := .cells #[.int .u64 t239, .int .i64 t240, .slice Ao21 t241.length co21] 30 (0, 0)) (by (with_reducible repeat (first | refine blk_drewN ?_ _ | refine blk_drew ?_ | refine blk_alloc ?_ _)); exact BK244.out) hb)
                                have n7_ := Aside0.mk (blk_below (g := gb253) (o := .cells #[.int .u64 t245, .int .i64 t246, .slice Ao30 t247.length co30] 25 (0, 0)) (by (with_reducible repeat (first | refine blk_drewN ?_ _ | refine blk_drew ?_ | refine blk_alloc ?_ _)); exact BK253.out) hb)
                                have n8_ := Aside0.mk (below_step (by repeat (first | (with_reducible first | exact HB.out | apply below_alloc | apply pw_below_drewN | apply below_drew1 | refine below_set ?_ GE237.out | refine below_set ?_ GE244.out | refine below_set ?_ GE253.out) | exact HB.out)) hb)
                                clear HO_83
                                clear HO_245002
                                clear HO_254002
                                clear HO274
                                clear HO279
                                clear BK237
                                clear BK244
                                clear BK253
                                clear HB
                                have HO_83 := n0_
                                have HO_245002 := n1_
                                have HO_254002 := n2_
                                have HO274 := n3_
                                have HO279 := n4_
                                have BK237 := n5_
                                have BK244 := n6_
                                have BK253 := n7_
                                have HB := n8_
                                clear n0_ n1_ n2_ n3_ n4_ n5_ n6_ n7_ n8_
                                (try clear hb)
                                (try clear hb2)
                                (try clear hk)
                                (try clear hi)
                                refine hK.out _ _ ⟨(blk_cell BK237.out 0).trans rfl, (blk_cell BK237.out 1).trans rfl, (blk_cell BK237.out 2).trans rfl, (blk_cell BK253.out 0).trans rfl, (blk_cell BK253.out 1).trans rfl, (blk_cell BK253.out 2).trans rfl, (blk_cell BK244.out 0).trans rfl, (blk_cell BK244.out 1).trans rfl, (blk_cell BK244.out 2).trans rfl⟩ (fun hHeld => ?_)
                                clear hK K
                                refine norm_ (a' := ?_) ?_ ?_
                                rotate_left
                                · show Act.put _ (some 115) _ = _
                                  simp only [Act.put, List.setIfInBounds_toArray, List.set_cons_zero, List.set_cons_succ, i64_w, i32_w]
                                  rfl
                                refine one_ (i := 16) (N := some 118) #[true, true, true, true, true, true, true, true, true, true, true, true, true, true, true, true, true, false, false, false, false, false, false, false, false, false, false, false, false] rfl rfl (one_of HT_.out (by kernel_rfl)) (by decide) (fun K hK => ?_)
                                refine goes_ Try.func23 (by kernel_rfl) rfl #[.agg #[.int .u64 t239, .int .i64 t240, .slice Ao21 t241.length co21], .string a1] (by rfl) rfl rfl (by (try simp only [List.map_toArray, List.map_cons, List.map_nil]); first | done | rfl | (simp only [List.length_drop, List.length_take]; rfl)) ?_
                                with_reducible refine (rillmeterref10_Has.calls k3 t239 t240 _ _ t241 a1 t282 _ ?side1 ?side2 A64.out).mono ?_
                                (case side1 => repeat (first | exact (Kd.V_reads' HO_245002.out).2.2 | (with_reducible refine Kd.C_alloc ?_ _) | (with_reducible refine Kd.C_drewN ?_ _) | (with_reducible refine Kd.C_drew ?_)))
                                (case side2 => exact (Kd.V_reads' HO_245002.out).2.1)
                                rintro e w77 ⟨rfl, hb⟩
                                refine ⟨_, rfl, ?_⟩
                                have n0_ := Aside0.mk (Kd.R_below (by (with_reducible repeat (first | apply Kd.R_alloc | apply Kd.R_drewN | apply Kd.R_drew)); exact HO_83.out) hb)
                                have n1_ := Aside0.mk (Kd.V_below (by (with_reducible repeat (first | apply Kd.V_alloc | apply Kd.V_drewN | apply Kd.V_drew)); exact HO_245002.out) hb)
                                have n2_ := Aside0.mk (Kd.R_below (by (with_reducible repeat (first | apply Kd.R_alloc | apply Kd.R_drewN | apply Kd.R_drew)); exact HO_254002.out) hb)
                                have n3_ := Aside0.mk (Kd.V_below (by (with_reducible repeat (first | apply Kd.V_alloc | apply Kd.V_drewN | apply Kd.V_drew)); exact HO274.out) hb)
                                have n4_ := Aside0.mk (Kd.R_below (by (with_reducible repeat (first | apply Kd.R_alloc | apply Kd.R_drewN | apply Kd.R_drew)); exact HO279.out) hb)
                                have n5_ := Aside0.mk (blk_below (g := gb237) (o := .cells #[.int .u64 a0_0, .int .i64 a0_1, .slice A0_2 l0_2.length c0_2] 25 (0, 0)) (by (with_reducible repeat (first | refine blk_drewN ?_ _ | refine blk_drew ?_ | refine blk_alloc ?_ _)); exact BK237.out) hb)
                                have n6_ := Aside0.mk (blk_below (g := gb244) (o := .cells #[.int .u64 t239, .int .i64 t240, .slice Ao21 t241.length co21] 30 (0, 0)) (by (with_reducible repeat (first | refine blk_drewN ?_ _ | refine blk_drew ?_ | refine blk_alloc ?_ _)); exact BK244.out) hb)
                                have n7_ := Aside0.mk (blk_below (g := gb253) (o := .cells #[.int .u64 t245, .int .i64 t246, .slice Ao30 t247.length co30] 25 (0, 0)) (by (with_reducible repeat (first | refine blk_drewN ?_ _ | refine blk_drew ?_ | refine blk_alloc ?_ _)); exact BK253.out) hb)
                                have n8_ := Aside0.mk (below_step (by repeat (first | (with_reducible first | exact HB.out | apply below_alloc | apply pw_below_drewN | apply below_drew1 | refine below_set ?_ GE237.out | refine below_set ?_ GE244.out | refine below_set ?_ GE253.out) | exact HB.out)) hb)
                                clear HO_83
                                clear HO_245002
                                clear HO_254002
                                clear HO274
                                clear HO279
                                clear BK237
                                clear BK244
                                clear BK253
                                clear HB
                                have HO_83 := n0_
                                have HO_245002 := n1_
                                have HO_254002 := n2_
                                have HO274 := n3_
                                have HO279 := n4_
                                have BK237 := n5_
                                have BK244 := n6_
                                have BK253 := n7_
                                have HB := n8_
                                clear n0_ n1_ n2_ n3_ n4_ n5_ n6_ n7_ n8_
                                (try clear hb)
                                (try clear hb2)
                                (try clear hk)
                                (try clear hi)
                                refine hK.out _ _ ⟨(blk_cell BK237.out 0).trans rfl, (blk_cell BK237.out 1).trans rfl, (blk_cell BK237.out 2).trans rfl, (blk_cell BK253.out 0).trans rfl, (blk_cell BK253.out 1).trans rfl, (blk_cell BK253.out 2).trans rfl, (blk_cell BK244.out 0).trans rfl, (blk_cell BK244.out 1).trans rfl, (blk_cell BK244.out 2).trans rfl⟩ (fun hHeld => ?_)
                                clear hK K
                                refine norm_ (a' := ?_) ?_ ?_
                                rotate_left
                                · show Act.put _ (some 118) _ = _
                                  simp only [Act.put, List.setIfInBounds_toArray, List.set_cons_zero, List.set_cons_succ, i64_w, i32_w]
                                  rfl
                                refine pure_ (i := 17) (N := some 119) (v := ?_) (a' := ?_) #[true, true, true, true, true, true, true, true, true, true, true, true, true, true, true, true, true, true, false, false, false, false, false, false, false, false, false, false, false] rfl rfl (any_of HT_.out (by kernel_rfl)) (fun _ _ _ h => h) (Or.inl ⟨by rfl, ?_⟩) ?_ ?_
                                rotate_left
                                · intro w'
                                  go_simp
                                  with_reducible rfl
                                rotate_left
                                · simp only [Act.put, List.setIfInBounds_toArray, List.set_cons_zero, List.set_cons_succ, i64_w, i32_w]
                                  rfl
                                refine pure_ (i := 18) (N := some 120) (v := ?_) (a' := ?_) #[true, true, true, true, true, true, true, true, true, true, true, true, true, true, true, true, true, true, true, false, false, false, false, false, false, false, false, false, false] rfl rfl (any_of HT_.out (by kernel_rfl)) (fun _ _ _ h => h) (Or.inl ⟨by rfl, ?_⟩) ?_ ?_
                                rotate_left
                                · intro w'
                                  go_simp
                                  with_reducible rfl
                                rotate_left
                                · simp only [Act.put, List.setIfInBounds_toArray, List.set_cons_zero, List.set_cons_succ, i64_w, i32_w]
                                  rfl
                                refine pure_ (i := 19) (N := some 121) (v := ?_) (a' := ?_) #[true, true, true, true, true, true, true, true, true, true, true, true, true, true, true, true, true, true, true, true, false, false, false, false, false, false, false, false, false] rfl rfl (any_of HT_.out (by kernel_rfl)) (fun _ _ _ h => h) (Or.inl ⟨by rfl, ?_⟩) ?_ ?_
                                rotate_left
                                · intro w'
                                  go_simp
                                  with_reducible rfl
                                rotate_left
                                · simp only [Act.put, List.setIfInBounds_toArray, List.set_cons_zero, List.set_cons_succ, i64_w, i32_w]
                                  rfl
                                refine pure_ (i := 22) (N := some 124) (v := ?_) (a' := ?_) #[true, true, true, true, true, true, true, true, true, true, true, true, true, true, true, true, true, true, true, true, false, false, true, false, false, false, false, false, false] rfl rfl (any_of HT_.out (by kernel_rfl)) (fun _ _ _ h => h) (Or.inl ⟨by rfl, ?_⟩) ?_ ?_
                                rotate_left
                                · intro w'
                                  go_simp
                                  with_reducible rfl
                                rotate_left
                                · simp only [Act.put, List.setIfInBounds_toArray, List.set_cons_zero, List.set_cons_succ, i64_w, i32_w]
                                  rfl
                                refine take_ (i := 20) (N := some 122) (v := ?_) (a' := ?_) #[true, true, true, true, true, true, true, true, true, true, true, true, true, true, true, true, true, true, true, true, true, false, true, false, false, false, false, false, false] rfl rfl (take_ofW HT_.out HW_.out (by kernel_rfl)) (fun _ _ _ h => h) (Or.inl ⟨by rfl, ?_⟩) hHeld ?_ ?_
                                rotate_left
                                · rintro w' ⟨s0, s1, s2, s3, s4, s5, s6, s7, s8⟩
                                  go_simp
                                  with_reducible rfl
                                rotate_left
                                · simp only [Act.put, List.setIfInBounds_toArray, List.set_cons_zero, List.set_cons_succ, i64_w, i32_w]
                                  rfl
                                refine one_ (i := 21) (N := some 123) #[true, true, true, true, true, true, true, true, true, true, true, true, true, true, true, true, true, true, true, true, true, true, true, false, false, false, false, false, false] rfl rfl (one_of HT_.out (by kernel_rfl)) (by decide) (fun K hK => ?_)
                                refine goes_ Try.func15 (by kernel_rfl) rfl #[.agg #[.int .u64 a0_0, .int .i64 a0_1, .slice A0_2 l0_2.length c0_2]] (by rfl) rfl rfl (by (try simp only [List.map_toArray, List.map_cons, List.map_nil]); first | done | rfl | (simp only [List.length_drop, List.length_take]; rfl)) ?_
                                with_reducible refine (bloom_Set.calls k3 a0_0 a0_1 _ _ l0_2 t283 _ ?side1 ?side2 A66.out).mono ?_
                                (case side1 => repeat (first | exact (Kd.C_below HR0_2.out HB.out) | (with_reducible refine Kd.C_alloc ?_ _) | (with_reducible refine Kd.C_drewN ?_ _) | (with_reducible refine Kd.C_drew ?_)))
                                (case side2 => exact HC0_2.out)
                                rintro e w78 ⟨rfl, hb⟩
                                refine ⟨_, rfl, ?_⟩
                                have n0_ := Aside0.mk (Kd.R_below (by (with_reducible repeat (first | apply Kd.R_alloc | apply Kd.R_drewN | apply Kd.R_drew)); exact HO_83.out) hb)
                                have n1_ := Aside0.mk (Kd.V_below (by (with_reducible repeat (first | apply Kd.V_alloc | apply Kd.V_drewN | apply Kd.V_drew)); exact HO_245002.out) hb)
                                have n2_ := Aside0.mk (Kd.R_below (by (with_reducible repeat (first | apply Kd.R_alloc | apply Kd.R_drewN | apply Kd.R_drew)); exact HO_254002.out) hb)
                                have n3_ := Aside0.mk (Kd.V_below (by (with_reducible repeat (first | apply Kd.V_alloc | apply Kd.V_drewN | apply Kd.V_drew)); exact HO274.out) hb)
                                have n4_ := Aside0.mk (Kd.R_below (by (with_reducible repeat (first | apply Kd.R_alloc | apply Kd.R_drewN | apply Kd.R_drew)); exact HO279.out) hb)
                                have n5_ := Aside0.mk (blk_below (g := gb237) (o := .cells #[.int .u64 a0_0, .int .i64 a0_1, .slice A0_2 l0_2.length c0_2] 25 (0, 0)) (by (with_reducible repeat (first | refine blk_drewN ?_ _ | refine blk_drew ?_ | refine blk_alloc ?_ _)); exact BK237.out) hb)
                                have n6_ := Aside0.mk (blk_below (g := gb244) (o := .cells #[.int .u64 t239, .int .i64 t240, .slice Ao21 t241.length co21] 30 (0, 0)) (by (with_reducible repeat (first | refine blk_drewN ?_ _ | refine blk_drew ?_ | refine blk_alloc ?_ _)); exact BK244.out) hb)
                                have n7_ := Aside0.mk (blk_below (g := gb253) (o := .cells #[.int .u64 t245, .int .i64 t246, .slice Ao30 t247.length co30] 25 (0, 0)) (by (with_reducible repeat (first | refine blk_drewN ?_ _ | refine blk_drew ?_ | refine blk_alloc ?_ _)); exact BK253.out) hb)
                                have n8_ := Aside0.mk (below_step (by repeat (first | (with_reducible first | exact HB.out | apply below_alloc | apply pw_below_drewN | apply below_drew1 | refine below_set ?_ GE237.out | refine below_set ?_ GE244.out | refine below_set ?_ GE253.out) | exact HB.out)) hb)
                                clear HO_83
                                clear HO_245002
                                clear HO_254002
                                clear HO274
                                clear HO279
                                clear BK237
                                clear BK244
                                clear BK253
                                clear HB
                                have HO_83 := n0_
                                have HO_245002 := n1_
                                have HO_254002 := n2_
                                have HO274 := n3_
                                have HO279 := n4_
                                have BK237 := n5_
                                have BK244 := n6_
                                have BK253 := n7_
                                have HB := n8_
                                clear n0_ n1_ n2_ n3_ n4_ n5_ n6_ n7_ n8_
                                (try clear hb)
                                (try clear hb2)
                                (try clear hk)
                                (try clear hi)
                                refine hK.out _ _ ⟨(blk_cell BK237.out 0).trans rfl, (blk_cell BK237.out 1).trans rfl, (blk_cell BK237.out 2).trans rfl, (blk_cell BK253.out 0).trans rfl, (blk_cell BK253.out 1).trans rfl, (blk_cell BK253.out 2).trans rfl, (blk_cell BK244.out 0).trans rfl, (blk_cell BK244.out 1).trans rfl, (blk_cell BK244.out 2).trans rfl⟩ (fun hHeld => ?_)
                                clear hK K
                                refine norm_ (a' := ?_) ?_ ?_
                                rotate_left
                                · show Act.put _ (some 123) _ = _
                                  simp only [Act.put, List.setIfInBounds_toArray, List.set_cons_zero, List.set_cons_succ, i64_w, i32_w]
                                  rfl
                                refine pure_ (i := 23) (N := some 125) (v := ?_) (a' := ?_) #[true, true, true, true, true, true, true, true, true, true, true, true, true, true, true, true, true, true, true, true, true, true, true, true, false, false, false, false, false] rfl rfl (any_of HT_.out (by kernel_rfl)) (fun _ _ _ h => h) (Or.inl ⟨by rfl, ?_⟩) ?_ ?_
                                rotate_left
                                · intro w'
                                  go_simp
                                  with_reducible rfl
                                rotate_left
                                · simp only [Act.put, List.setIfInBounds_toArray, List.set_cons_zero, List.set_cons_succ, i64_w, i32_w]
                                  rfl
                                refine pure_ (i := 24) (N := some 126) (v := ?_) (a' := ?_) #[true, true, true, true, true, true, true, true, true, true, true, true, true, true, true, true, true, true, true, true, true, true, true, true, true, false, false, false, false] rfl rfl (any_of HT_.out (by kernel_rfl)) (fun _ _ _ h => h) (Or.inl ⟨by rfl, ?_⟩) ?_ ?_
                                rotate_left
                                · intro w'
                                  go_simp
                                  with_reducible rfl
                                rotate_left
                                · simp only [Act.put, List.setIfInBounds_toArray, List.set_cons_zero, List.set_cons_succ, i64_w, i32_w]
                                  rfl
                                refine pure_ (i := 25) (N := some 127) (v := ?_) (a' := ?_) #[true, true, true, true, true, true, true, true, true, true, true, true, true, true, true, true, true, true, true, true, true, true, true, true, true, true, false, false, false] rfl rfl (any_of HT_.out (by kernel_rfl)) (fun _ _ _ h => h) (Or.inl ⟨by rfl, ?_⟩) ?_ ?_
                                rotate_left
                                · intro w'
                                  go_simp
                                  with_reducible rfl
                                rotate_left
                                · simp only [Act.put, List.setIfInBounds_toArray, List.set_cons_zero, List.set_cons_succ, i64_w, i32_w]
                                  rfl
                                refine one_ (i := 26) (N := some 128) #[true, true, true, true, true, true, true, true, true, true, true, true, true, true, true, true, true, true, true, true, true, true, true, true, true, true, true, false, false] rfl rfl (one_of HT_.out (by kernel_rfl)) (by decide) (fun K hK => ?_)
                                refine goes_ Try.func12 (by kernel_rfl) rfl #[] (by rfl) rfl rfl (by (try simp only [List.map_toArray, List.map_cons, List.map_nil]); first | done | rfl | (simp only [List.length_drop, List.length_take]; rfl)) ?_
                                with_reducible refine (rillmeterlaw10_awake.calls k3  t284 _ A68.out).mono ?_
                                rintro e w79 ⟨rfl, hb⟩
                                refine ⟨_, rfl, ?_⟩
                                have n0_ := Aside0.mk (Kd.R_below (by (with_reducible repeat (first | apply Kd.R_alloc | apply Kd.R_drewN | apply Kd.R_drew)); exact HO_83.out) hb)
                                have n1_ := Aside0.mk (Kd.V_below (by (with_reducible repeat (first | apply Kd.V_alloc | apply Kd.V_drewN | apply Kd.V_drew)); exact HO_245002.out) hb)
                                have n2_ := Aside0.mk (Kd.R_below (by (with_reducible repeat (first | apply Kd.R_alloc | apply Kd.R_drewN | apply Kd.R_drew)); exact HO_254002.out) hb)
                                have n3_ := Aside0.mk (Kd.V_below (by (with_reducible repeat (first | apply Kd.V_alloc | apply Kd.V_drewN | apply Kd.V_drew)); exact HO274.out) hb)
                                have n4_ := Aside0.mk (Kd.R_below (by (with_reducible repeat (first | apply Kd.R_alloc | apply Kd.R_drewN | apply Kd.R_drew)); exact HO279.out) hb)
                                have n5_ := Aside0.mk (blk_below (g := gb237) (o := .cells #[.int .u64 a0_0, .int .i64 a0_1, .slice A0_2 l0_2.length c0_2] 25 (0, 0)) (by (with_reducible repeat (first | refine blk_drewN ?_ _ | refine blk_drew ?_ | refine blk_alloc ?_ _)); exact BK237.out) hb)
                                have n6_ := Aside0.mk (blk_below (g := gb244) (o := .cells #[.int .u64 t239, .int .i64 t240, .slice Ao21 t241.length co21] 30 (0, 0)) (by (with_reducible repeat (first | refine blk_drewN ?_ _ | refine blk_drew ?_ | refine blk_alloc ?_ _)); exact BK244.out) hb)
                                have n7_ := Aside0.mk (blk_below (g := gb253) (o := .cells #[.int .u64 t245, .int .i64 t246, .slice Ao30 t247.length co30] 25 (0, 0)) (by (with_reducible repeat (first | refine blk_drewN ?_ _ | refine blk_drew ?_ | refine blk_alloc ?_ _)); exact BK253.out) hb)
                                have n8_ := Aside0.mk (below_step (by repeat (first | (with_reducible first | exact HB.out | apply below_alloc | apply pw_below_drewN | apply below_drew1 | refine below_set ?_ GE237.out | refine below_set ?_ GE244.out | refine below_set ?_ GE253.out) | exact HB.out)) hb)
                                clear HO_83
                                clear HO_245002
                                clear HO_254002
                                clear HO274
                                clear HO279
                                clear BK237
                                clear BK244
                                clear BK253
                                clear HB
                                have HO_83 := n0_
                                have HO_245002 := n1_
                                have HO_254002 := n2_
                                have HO274 := n3_
                                have HO279 := n4_
                                have BK237 := n5_
                                have BK244 := n6_
                                have BK253 := n7_
                                have HB := n8_
                                clear n0_ n1_ n2_ n3_ n4_ n5_ n6_ n7_ n8_
                                (try clear hb)
                                (try clear hb2)
                                (try clear hk)
                                (try clear hi)
                                refine hK.out _ _ ⟨(blk_cell BK237.out 0).trans rfl, (blk_cell BK237.out 1).trans rfl, (blk_cell BK237.out 2).trans rfl, (blk_cell BK253.out 0).trans rfl, (blk_cell BK253.out 1).trans rfl, (blk_cell BK253.out 2).trans rfl, (blk_cell BK244.out 0).trans rfl, (blk_cell BK244.out 1).trans rfl, (blk_cell BK244.out 2).trans rfl⟩ (fun hHeld => ?_)
                                clear hK K
                                refine norm_ (a' := ?_) ?_ ?_
                                rotate_left
                                · show Act.put _ (some 128) _ = _
                                  simp only [Act.put, List.setIfInBounds_toArray, List.set_cons_zero, List.set_cons_succ, i64_w, i32_w]
                                  rfl
                                refine pure_ (i := 27) (N := some 129) (v := ?_) (a' := ?_) #[true, true, true, true, true, true, true, true, true, true, true, true, true, true, true, true, true, true, true, true, true, true, true, true, true, true, true, true, false] rfl rfl (any_of HT_.out (by kernel_rfl)) (fun _ _ _ h => h) (Or.inl ⟨by rfl, ?_⟩) ?_ ?_
                                rotate_left
                                · intro w'
                                  go_simp
                                  with_reducible rfl
                                rotate_left
                                · simp only [Act.put, List.setIfInBounds_toArray, List.set_cons_zero, List.set_cons_succ, i64_w, i32_w]
                                  rfl
                                refine pure_ (i := 28) (N := some 4) (v := ?_) (a' := ?_) #[true, true, true, true, true, true, true, true, true, true, true, true, true, true, true, true, true, true, true, true, true, true, true, true, true, true, true, true, true] rfl rfl (any_of HT_.out (by kernel_rfl)) (fun _ _ _ h => h) (Or.inl ⟨by rfl, ?_⟩) ?_ ?_
                                rotate_left
                                · intro w'
                                  go_simp
                                  with_reducible rfl
                                rotate_left
                                · simp only [Act.put, List.setIfInBounds_toArray, List.set_cons_zero, List.set_cons_succ, i64_w, i32_w]
                                  rfl
                                refine done_ (done_of HT_.out (by kernel_rfl)) ?_
                                try go_wp2
                                go_ret
                                exact ⟨by first | rfl | (simp [errW_none, errW_some] <;> rfl) | (simp [*, errW_none, errW_some] <;> rfl), by repeat (first | (with_reducible first | exact HB.out | apply below_alloc | apply pw_below_drewN | apply below_drew1 | refine below_set ?_ GE237.out | refine below_set ?_ GE244.out | refine below_set ?_ GE253.out) | exact HB.out)⟩
                              · rw [if_neg c67] at H
                                have c67b0 : (t283 == x8_2) = false := beq_eq_false_iff_ne.mpr c67
                                have c67b1 : (t283 != x8_2) = true := bne_iff_ne.mpr c67
                                exact absurd ((Option.some.inj H).trans hrt.out) (by decide)
                            · rw [if_neg c65] at H
                              have c65b0 : (t281 == t282) = false := by simpa using c65
                              (try (have c65b1 : decide (t281 = t282) = false := by simpa using c65))
                              (try (have c65b2 : (t281 == t282) = false := by simpa using c65))
                              (try (have c65b3 : ¬ (t281 = t282) := by simpa using c65))
                              clear c65
                              exact absurd ((Option.some.inj H).trans hrt.out) (by decide)
                          · replace c62 := Bool.eq_false_iff.mpr c62
                            subst c62
                            have H1 : (some false) = some r := by rw [if_neg (show ¬ (false = true) by decide)] at H; exact H
                            clear H
                            have H := H1
                            clear H1
                            exact absurd ((Option.some.inj H).trans hrt.out) (by decide)
                        · replace c58 := Bool.eq_false_iff.mpr c58
                          subst c58
                          have H1 : (some false) = some r := by rw [if_neg (show ¬ (false = true) by decide)] at H; exact H
                          clear H
                          have H := H1
                          clear H1
                          exact absurd ((Option.some.inj H).trans hrt.out) (by decide)
                · rw [if_neg c41] at H
                  have c41b0 : ((t250.length : Int) == a0_1) = false := beq_eq_false_iff_ne.mpr c41
                  have c41b1 : ((t250.length : Int) != a0_1) = true := bne_iff_ne.mpr c41
                  exact absurd ((Option.some.inj H).trans hrt.out) (by decide)
              · replace c40 := Bool.eq_false_iff.mpr c40
                subst c40
                have H1 : ((bloom_Right.f a0_0 a0_1 l0_2).bind fun t256 => (if t256 = true then (some false) else ((rillmeterlaw10_ref.f t245 t246 t247).bind fun bt257 => ((rillmeterref10_Equal.f k2 bt257.1 bt257.2.1 bt257.2.2 t239 t240 t241).bind fun t262 => (if t262 = true then (if (t250.length : Int) = 0 then ((bloom_Has.f k2 a0_0 a0_1 l0_2 a1).bind fun t263 => (if t263 = true then (some false) else ((bloom_Set.f k2 a0_0 a0_1 l0_2).bind fun t264 => (if t264 = 0 then ((rillmeterlaw10_awake.f k2).bind fun t265 => (some t265)) else (some false))))) else (some false)) else (some false)))))) = some r := by rw [if_neg (show ¬ (false = true) by decide)] at H; exact H
                clear H
                have H := H1
                clear H1
                replace H := Option.bind_eq_some_iff.mp H
                obtain ⟨t256, A800, H⟩ := H
                replace H : (if t256 = true then (some false) else ((rillmeterlaw10_ref.f t245 t246 t247).bind fun bt257 => ((rillmeterref10_Equal.f k2 bt257.1 bt257.2.1 bt257.2.2 t239 t240 t241).bind fun t262 => (if t262 = true then (if (t250.length : Int) = 0 then ((bloom_Has.f k2 a0_0 a0_1 l0_2 a1).bind fun t263 => (if t263 = true then (some false) else ((bloom_Set.f k2 a0_0 a0_1 l0_2).bind fun t264 => (if t264 = 0 then ((rillmeterlaw10_awake.f k2).bind fun t265 => (some t265)) else (some false))))) else (some false)) else (some false))))) = some r := H
                have A80 := Aside0.mk A800
                clear A800
                by_cases c81 : t256 = true
                · subst c81
                  have H1 : (some false) = some r := by rw [if_pos rfl] at H; exact H
                  clear H
                  have H := H1
                  clear H1
                  exact absurd ((Option.some.inj H).trans hrt.out) (by decide)
                · replace c81 := Bool.eq_false_iff.mpr c81
                  subst c81
                  have H1 : ((rillmeterlaw10_ref.f t245 t246 t247).bind fun bt257 => ((rillmeterref10_Equal.f k2 bt257.1 bt257.2.1 bt257.2.2 t239 t240 t241).bind fun t262 => (if t262 = true then (if (t250.length : Int) = 0 then ((bloom_Has.f k2 a0_0 a0_1 l0_2 a1).bind fun t263 => (if t263 = true then (some false) else ((bloom_Set.f k2 a0_0 a0_1 l0_2).bind fun t264 => (if t264 = 0 then ((rillmeterlaw10_awake.f k2).bind fun t265 => (some t265)) else (some false))))) else (some false)) else (some false)))) = some r := by rw [if_neg (show ¬ (false = true) by decide)] at H; exact H
                  clear H
                  have H := H1
                  clear H1
                  replace H := Option.bind_eq_some_iff.mp H
                  obtain ⟨⟨t257, t258, t259⟩, A820, H⟩ := H
                  replace H : ((rillmeterref10_Equal.f k2 t257 t258 t259 t239 t240 t241).bind fun t262 => (if t262 = true then (if (t250.length : Int) = 0 then ((bloom_Has.f k2 a0_0 a0_1 l0_2 a1).bind fun t263 => (if t263 = true then (some false) else ((bloom_Set.f k2 a0_0 a0_1 l0_2).bind fun t264 => (if t264 = 0 then ((rillmeterlaw10_awake.f k2).bind fun t265 => (some t265)) else (some false))))) else (some false)) else (some false))) = some r := H
                  have A82 := Aside0.mk A820
                  clear A820
                  replace H := Option.bind_eq_some_iff.mp H
                  obtain ⟨t262, A830, H⟩ := H
                  replace H : (if t262 = true then (if (t250.length : Int) = 0 then ((bloom_Has.f k2 a0_0 a0_1 l0_2 a1).bind fun t263 => (if t263 = true then (some false) else ((bloom_Set.f k2 a0_0 a0_1 l0_2).bind fun t264 => (if t264 = 0 then ((rillmeterlaw10_awake.f k2).bind fun t265 => (some t265)) else (some false))))) else (some false)) else (some false)) = some r := H
                  have A83 := Aside0.mk A830
                  clear A830
                  by_cases c84 : t262 = true
                  · subst c84
                    have H1 : (if (t250.length : Int) = 0 then ((bloom_Has.f k2 a0_0 a0_1 l0_2 a1).bind fun t263 => (if t263 = true then (some false) else ((bloom_Set.f k2 a0_0 a0_1 l0_2).bind fun t264 => (if t264 = 0 then ((rillmeterlaw10_awake.f k2).bind fun t265 => (some t265)) else (some false))))) else (some false)) = some r := by rw [if_pos rfl] at H; exact H
                    clear H
                    have H := H1
                    clear H1
                    by_cases c85 : (t250.length : Int) = 0
                    · rw [if_pos c85] at H
                      have c85b0 : ((t250.length : Int) == 0) = true := beq_iff_eq.mpr c85
                      have c85b1 : ((t250.length : Int) != 0) = false := bne_eq_false_iff_eq.mpr c85
                      clear c85
                      replace H := Option.bind_eq_some_iff.mp H
                      obtain ⟨t263, A860, H⟩ := H
                      replace H : (if t263 = true then (some false) else ((bloom_Set.f k2 a0_0 a0_1 l0_2).bind fun t264 => (if t264 = 0 then ((rillmeterlaw10_awake.f k2).bind fun t265 => (some t265)) else (some false)))) = some r := H
                      have A86 := Aside0.mk A860
                      clear A860
                      by_cases c87 : t263 = true
                      · subst c87
                        have H1 : (some false) = some r := by rw [if_pos rfl] at H; exact H
                        clear H
                        have H := H1
                        clear H1
                        exact absurd ((Option.some.inj H).trans hrt.out) (by decide)
                      · replace c87 := Bool.eq_false_iff.mpr c87
                        subst c87
                        have H1 : ((bloom_Set.f k2 a0_0 a0_1 l0_2).bind fun t264 => (if t264 = 0 then ((rillmeterlaw10_awake.f k2).bind fun t265 => (some t265)) else (some false))) = some r := by rw [if_neg (show ¬ (false = true) by decide)] at H; exact H
                        clear H
                        have H := H1
                        clear H1
                        replace H := Option.bind_eq_some_iff.mp H
                        obtain ⟨t264, A880, H⟩ := H
                        replace H : (if t264 = 0 then ((rillmeterlaw10_awake.f k2).bind fun t265 => (some t265)) else (some false)) = some r := H
                        have A88 := Aside0.mk A880
                        clear A880
                        by_cases c89 : t264 = 0
                        · rw [if_pos c89] at H
                          have c89b0 : (t264 == 0) = true := beq_iff_eq.mpr c89
                          have c89b1 : (t264 != 0) = false := bne_eq_false_iff_eq.mpr c89
                          clear c89
                          replace H := Option.bind_eq_some_iff.mp H
                          obtain ⟨t265, A900, H⟩ := H
                          replace H : (some t265) = some r := H
                          have A90 := Aside0.mk A900
                          clear A900
                          obtain rfl := Option.some.inj H
                          have hnb91 := NB244_237.out
                          have hnc91 := NB237_244.out
                          have hnb92 := NB244_253.out
                          have hnc92 := NB253_244.out
                          have hcz93_0 : wr.cell? ⟨gb244, 0, none⟩ = some (.int .u64 t239) := (blk_cell BK244.out 0).trans rfl
                          have hcz93_1 : wr.cell? ⟨gb244, 1, none⟩ = some (.int .i64 t240) := (blk_cell BK244.out 1).trans rfl
                          have hcz93_2 : wr.cell? ⟨gb244, 2, none⟩ = some (.slice Ao21 t241.length co21) := (blk_cell BK244.out 2).trans rfl
                          have hfz93_0 := blk_frozen BK244.out 0
                          have hfz93_1 := blk_frozen BK244.out 1
                          have hfz93_2 := blk_frozen BK244.out 2
                          try go_wp2_with (first | ((with_reducible refine gate_callee (f := 18) rfl ?_); refine goesL_ (some 48) rfl rfl Try.func18 (by kernel_rfl) rfl #[.agg #[.int .u64 t239, .int .i64 t240, .slice Ao21 t241.length co21]] rfl (by (try simp only [List.map_toArray, List.map_cons, List.map_nil]); first | done | rfl | (simp only [List.length_drop, List.length_take]; rfl)) ?_; (with_reducible refine (rillmeterref10_Right.calls t239 t240 _ _ t241 false _ ?side1 ?side2 A39.out).mono ?_); (case side1 => repeat (first | exact (Kd.V_reads' HO_245002.out).2.2 | (with_reducible refine Kd.C_alloc ?_ _) | (with_reducible refine Kd.C_drewN ?_ _) | (with_reducible refine Kd.C_drew ?_))); (case side2 => exact (Kd.V_reads' HO_245002.out).2.1); rintro e w94 ⟨rfl, hb⟩; refine ⟨_, rfl, ?_⟩; have n0_ := Aside0.mk (Kd.R_below (by (with_reducible repeat (first | apply Kd.R_alloc | apply Kd.R_drewN | apply Kd.R_drew)); exact HO_7.out) hb); have n1_ := Aside0.mk (Kd.V_below (by (with_reducible repeat (first | apply Kd.V_alloc | apply Kd.V_drewN | apply Kd.V_drew)); exact HO_245002.out) hb); have n2_ := Aside0.mk (Kd.R_below (by (with_reducible repeat (first | apply Kd.R_alloc | apply Kd.R_drewN | apply Kd.R_drew)); exact HO_254002.out) hb); have n3_ := Aside0.mk (blk_below (g := gb237) (o := .cells #[.int .u64 a0_0, .int .i64 a0_1, .slice A0_2 l0_2.length c0_2] 25 (0, 0)) (by (with_reducible repeat (first | refine blk_drewN ?_ _ | refine blk_drew ?_ | refine blk_alloc ?_ _)); exact BK237.out) hb); have n4_ := Aside0.mk (blk_below (g := gb244) (o := .cells #[.int .u64 t239, .int .i64 t240, .slice Ao21 t241.length co21] 30 (0, 0)) (by (with_reducible repeat (first | refine blk_drewN ?_ _ | refine blk_drew ?_ | refine blk_alloc ?_ _)); exact BK244.out) hb); have n5_ := Aside0.mk (blk_below (g := gb253) (o := .cells #[.int .u64 t245, .int .i64 t246, .slice Ao30 t247.length co30] 25 (0, 0)) (by (with_reducible repeat (first | refine blk_drewN ?_ _ | refine blk_drew ?_ | refine blk_alloc ?_ _)); exact BK253.out) hb); have n6_ := Aside0.mk (below_step (by repeat (first | (with_reducible first | exact HB.out | apply below_alloc | apply pw_below_drewN | apply below_drew1 | refine below_set ?_ GE237.out | refine below_set ?_ GE244.out | refine below_set ?_ GE253.out) | exact HB.out)) hb); clear HO_7; clear HO_245002; clear HO_254002; clear BK237; clear BK244; clear BK253; clear HB; have HO_7 := n0_; have HO_245002 := n1_; have HO_254002 := n2_; have BK237 := n3_; have BK244 := n4_; have BK253 := n5_; have HB := n6_; clear n0_ n1_ n2_ n3_ n4_ n5_ n6_; (try clear hb); (try clear hb2); (try clear hk); (try clear hi)))
                          have n0_ := Aside0.mk (Kd.R_drew HO_7.out)
                          have n1_ := Aside0.mk (Kd.V_drew HO_245002.out)
                          have n2_ := Aside0.mk (Kd.R_drew HO_254002.out)
                          have n3_ := Aside0.mk (blk_drew BK237.out)
                          have n4_ := Aside0.mk (blk_drew BK244.out)
                          have n5_ := Aside0.mk (blk_drew BK253.out)
                          have n6_ := Aside0.mk (below_drew1 HB.out)
                          clear HO_7
                          clear HO_245002
                          clear HO_254002
                          clear BK237
                          clear BK244
                          clear BK253
                          clear HB
                          have HO_7 := n0_
                          have HO_245002 := n1_
                          have HO_254002 := n2_
                          have BK237 := n3_
                          have BK244 := n4_
                          have BK253 := n5_
                          have HB := n6_
                          clear n0_ n1_ n2_ n3_ n4_ n5_ n6_
                          refine start_ (n := 29) (S := fun w' => w'.cell? ⟨gb237, 0, none⟩ = some (.int .u64 a0_0) ∧ w'.cell? ⟨gb237, 1, none⟩ = some (.int .i64 a0_1) ∧ w'.cell? ⟨gb237, 2, none⟩ = some (.slice A0_2 l0_2.length c0_2) ∧ w'.cell? ⟨gb253, 0, none⟩ = some (.int .u64 t245) ∧ w'.cell? ⟨gb253, 1, none⟩ = some (.int .i64 t246) ∧ w'.cell? ⟨gb253, 2, none⟩ = some (.slice Ao30 t247.length co30) ∧ w'.cell? ⟨gb244, 0, none⟩ = some (.int .u64 t239) ∧ w'.cell? ⟨gb244, 1, none⟩ = some (.int .i64 t240) ∧ w'.cell? ⟨gb244, 2, none⟩ = some (.slice Ao21 t241.length co21)) (ds := []) #[false, false, false, false, false, false, false, false, false, false, false, false, false, false, false, false, false, false, false, false, false, false, false, false, false, false, false, false, false] (by kernel_rfl) rfl rfl ⟨(blk_cell BK237.out 0).trans rfl, (blk_cell BK237.out 1).trans rfl, (blk_cell BK237.out 2).trans rfl, (blk_cell BK253.out 0).trans rfl, (blk_cell BK253.out 1).trans rfl, (blk_cell BK253.out 2).trans rfl, (blk_cell BK244.out 0).trans rfl, (blk_cell BK244.out 1).trans rfl, (blk_cell BK244.out 2).trans rfl⟩ (fun hHeld => ?_); refine with_tabW rillmeterlaw10_BloomTurns.tab13 rillmeterlaw10_BloomTurns.bits13 (fun HT_ HW_ => ?_)
                          generalize w94.drew = w95 at HO_7 HO_245002 HO_254002 BK237 BK244 BK253 HB hHeld ⊢
                          refine take_ (i := 0) (N := some 50) (v := ?_) (a' := ?_) #[true, false, false, false, false, false, false, false, false, false, false, false, false, false, false, false, false, false, false, false, false, false, false, false, false, false, false, false, false] rfl rfl (take_ofW HT_.out HW_.out (by kernel_rfl)) (fun _ _ _ h => h) (Or.inl ⟨by rfl, ?_⟩) hHeld ?_ ?_
                          rotate_left
                          · rintro w' ⟨s0, s1, s2, s3, s4, s5, s6, s7, s8⟩
                            go_simp
                            with_reducible rfl
                          rotate_left
                          · simp only [Act.put, List.setIfInBounds_toArray, List.set_cons_zero, List.set_cons_succ, i64_w, i32_w]
                            rfl
                          refine one_ (i := 1) (N := some 51) #[true, true, false, false, false, false, false, false, false, false, false, false, false, false, false, false, false, false, false, false, false, false, false, false, false, false, false, false, false] rfl rfl (one_of HT_.out (by kernel_rfl)) (by decide) (fun K hK => ?_)
                          refine goes_ Try.func14 (by kernel_rfl) rfl #[.agg #[.int .u64 a0_0, .int .i64 a0_1, .slice A0_2 l0_2.length c0_2]] (by rfl) rfl rfl (by (try simp only [List.map_toArray, List.map_cons, List.map_nil]); first | done | rfl | (simp only [List.length_drop, List.length_take]; rfl)) ?_
                          with_reducible refine (bloom_Right.calls a0_0 a0_1 _ _ l0_2 false _ ?side1 ?side2 A80.out).mono ?_
                          (case side1 => repeat (first | exact (Kd.C_below HR0_2.out HB.out) | (with_reducible refine Kd.C_alloc ?_ _) | (with_reducible refine Kd.C_drewN ?_ _) | (with_reducible refine Kd.C_drew ?_)))
                          (case side2 => exact HC0_2.out)
                          rintro e w96 ⟨rfl, hb⟩
                          refine ⟨_, rfl, ?_⟩
                          have n0_ := Aside0.mk (Kd.R_below (by (with_reducible repeat (first | apply Kd.R_alloc | apply Kd.R_drewN | apply Kd.R_drew)); exact HO_7.out) hb)
                          have n1_ := Aside0.mk (Kd.V_below (by (with_reducible repeat (first | apply Kd.V_alloc | apply Kd.V_drewN | apply Kd.V_drew)); exact HO_245002.out) hb)
                          have n2_ := Aside0.mk (Kd.R_below (by (with_reducible repeat (first | apply Kd.R_alloc | apply Kd.R_drewN | apply Kd.R_drew)); exact HO_254002.out) hb)
                          have n3_ := Aside0.mk (blk_below (g := gb237) (o := .cells #[.int .u64 a0_0, .int .i64 a0_1, .slice A0_2 l0_2.length c0_2] 25 (0, 0)) (by (with_reducible repeat (first | refine blk_drewN ?_ _ | refine blk_drew ?_ | refine blk_alloc ?_ _)); exact BK237.out) hb)
                          have n4_ := Aside0.mk (blk_below (g := gb244) (o := .cells #[.int .u64 t239, .int .i64 t240, .slice Ao21 t241.length co21] 30 (0, 0)) (by (with_reducible repeat (first | refine blk_drewN ?_ _ | refine blk_drew ?_ | refine blk_alloc ?_ _)); exact BK244.out) hb)
                          have n5_ := Aside0.mk (blk_below (g := gb253) (o := .cells #[.int .u64 t245, .int .i64 t246, .slice Ao30 t247.length co30] 25 (0, 0)) (by (with_reducible repeat (first | refine blk_drewN ?_ _ | refine blk_drew ?_ | refine blk_alloc ?_ _)); exact BK253.out) hb)
                          have n6_ := Aside0.mk (below_step (by repeat (first | (with_reducible first | exact HB.out | apply below_alloc | apply pw_below_drewN | apply below_drew1 | refine below_set ?_ GE237.out | refine below_set ?_ GE244.out | refine below_set ?_ GE253.out) | exact HB.out)) hb)
                          clear HO_7
                          clear HO_245002
                          clear HO_254002
                          clear BK237
                          clear BK244
                          clear BK253
                          clear HB
                          have HO_7 := n0_
                          have HO_245002 := n1_
                          have HO_254002 := n2_
                          have BK237 := n3_
                          have BK244 := n4_
                          have BK253 := n5_
                          have HB := n6_
                          clear n0_ n1_ n2_ n3_ n4_ n5_ n6_
                          (try clear hb)
                          (try clear hb2)
                          (try clear hk)
                          (try clear hi)
                          refine hK.out _ _ ⟨(blk_cell BK237.out 0).trans rfl, (blk_cell BK237.out 1).trans rfl, (blk_cell BK237.out 2).trans rfl, (blk_cell BK253.out 0).trans rfl, (blk_cell BK253.out 1).trans rfl, (blk_cell BK253.out 2).trans rfl, (blk_cell BK244.out 0).trans rfl, (blk_cell BK244.out 1).trans rfl, (blk_cell BK244.out 2).trans rfl⟩ (fun hHeld => ?_)
                          clear hK K
                          refine norm_ (a' := ?_) ?_ ?_
                          rotate_left
                          · show Act.put _ (some 51) _ = _
                            simp only [Act.put, List.setIfInBounds_toArray, List.set_cons_zero, List.set_cons_succ, i64_w, i32_w]
                            rfl
                          refine pure_ (i := 2) (N := some 52) (v := ?_) (a' := ?_) #[true, true, true, false, false, false, false, false, false, false, false, false, false, false, false, false, false, false, false, false, false, false, false, false, false, false, false, false, false] rfl rfl (any_of HT_.out (by kernel_rfl)) (fun _ _ _ h => h) (Or.inl ⟨by rfl, ?_⟩) ?_ ?_
                          rotate_left
                          · intro w'
                            go_simp
                            with_reducible rfl
                          rotate_left
                          · simp only [Act.put, List.setIfInBounds_toArray, List.set_cons_zero, List.set_cons_succ, i64_w, i32_w]
                            rfl
                          refine pure_ (i := 3) (N := some 53) (v := ?_) (a' := ?_) #[true, true, true, true, false, false, false, false, false, false, false, false, false, false, false, false, false, false, false, false, false, false, false, false, false, false, false, false, false] rfl rfl (any_of HT_.out (by kernel_rfl)) (fun _ _ _ h => h) (Or.inl ⟨by rfl, ?_⟩) ?_ ?_
                          rotate_left
                          · intro w'
                            go_simp
                            with_reducible rfl
                          rotate_left
                          · simp only [Act.put, List.setIfInBounds_toArray, List.set_cons_zero, List.set_cons_succ, i64_w, i32_w]
                            rfl
                          refine take_ (i := 4) (N := some 54) (v := ?_) (a' := ?_) #[true, true, true, true, true, false, false, false, false, false, false, false, false, false, false, false, false, false, false, false, false, false, false, false, false, false, false, false, false] rfl rfl (take_ofW HT_.out HW_.out (by kernel_rfl)) (fun _ _ _ h => h) (Or.inl ⟨by rfl, ?_⟩) hHeld ?_ ?_
                          rotate_left
                          · rintro w' ⟨s0, s1, s2, s3, s4, s5, s6, s7, s8⟩
                            go_simp
                            with_reducible rfl
                          rotate_left
                          · simp only [Act.put, List.setIfInBounds_toArray, List.set_cons_zero, List.set_cons_succ, i64_w, i32_w]
                            rfl
                          refine take_ (i := 6) (N := some 56) (v := ?_) (a' := ?_) #[true, true, true, true, true, false, true, false, false, false, false, false, false, false, false, false, false, false, false, false, false, false, false, false, false, false, false, false, false] rfl rfl (take_ofW HT_.out HW_.out (by kernel_rfl)) (fun _ _ _ h => h) (Or.inl ⟨by rfl, ?_⟩) hHeld ?_ ?_
                          rotate_left
                          · rintro w' ⟨s0, s1, s2, s3, s4, s5, s6, s7, s8⟩
                            go_simp
                            with_reducible rfl
                          rotate_left
                          · simp only [Act.put, List.setIfInBounds_toArray, List.set_cons_zero, List.set_cons_succ, i64_w, i32_w]
                            rfl
                          refine one_ (i := 5) (N := some 55) #[true, true, true, true, true, true, true, false, false, false, false, false, false, false, false, false, false, false, false, false, false, false, false, false, false, false, false, false, false] rfl rfl (one_of HT_.out (by kernel_rfl)) (by decide) (fun K hK => ?_)
                          refine goes_ Try.func11 (by kernel_rfl) rfl #[.agg #[.int .u64 t245, .int .i64 t246, .slice Ao30 t247.length co30]] (by rfl) rfl rfl (by (try simp only [List.map_toArray, List.map_cons, List.map_nil]); first | done | rfl | (simp only [List.length_drop, List.length_take]; rfl)) ?_
                          with_reducible refine (rillmeterlaw10_ref.calls t245 t246 (fun k_ => some k_ = (.slice Ao30 t247.length co30 : Value).ownBlock) _ _ t247 t257 t258 t259 _ ?side1 A82.out).mono ?_
                          (case side1 => exact Kd.R_V (Kd.R_tight rfl (Kd.R_types (Kd.R_types (Kd.R_types (Kd.R_apart' (HO_254002.out) (Kd.R_typed HO_7.out) (by decide)) BK237.out (by decide)) BK244.out (by decide)) BK253.out (by decide))))
                          rintro e w97 ⟨v260, rfl, ho0, hb⟩
                          refine ⟨_, rfl, ?_⟩
                          have n0_ := Aside0.mk (Kd.R_below (by (with_reducible repeat (first | apply Kd.R_alloc | apply Kd.R_drewN | apply Kd.R_drew)); exact HO_7.out) hb)
                          have n1_ := Aside0.mk (Kd.V_below (by (with_reducible repeat (first | apply Kd.V_alloc | apply Kd.V_drewN | apply Kd.V_drew)); exact HO_245002.out) hb)
                          have n2_ := Aside0.mk (Kd.R_below (by (with_reducible repeat (first | apply Kd.R_alloc | apply Kd.R_drewN | apply Kd.R_drew)); exact HO_254002.out) hb)
                          have n3_ := Aside0.mk (Kd.V_lower (Kd.V_mono (ok' := fun k_ => some k_ ≠ (v251 : Value).ownBlock ∧ k_ ≠ gb237 ∧ k_ ≠ gb244 ∧ k_ ≠ gb253) ho0 (fun k_ hk_ => ⟨Or.elim hk_ (fun hs_ => ((Kd.R_types (Kd.R_types (Kd.R_types (Kd.R_apart' (HO_254002.out) (Kd.R_typed HO_7.out) (by decide)) BK237.out (by decide)) BK244.out (by decide)) BK253.out (by decide)).1 k_ hs_.symm).1.1.1.2) (fun hn_ => (Kd.fresh' (Kd.R_lt (by (with_reducible repeat (first | apply Kd.R_alloc | apply Kd.R_drewN | apply Kd.R_drew)); exact HO_7.out)) k_ hn_)), Or.elim hk_ (fun hs_ => ((Kd.R_types (Kd.R_types (Kd.R_types (Kd.R_apart' (HO_254002.out) (Kd.R_typed HO_7.out) (by decide)) BK237.out (by decide)) BK244.out (by decide)) BK253.out (by decide)).1 k_ hs_.symm).1.1.2) (fun hn_ => (Kd.freshB (g := gb237) (o := .cells #[.int .u64 a0_0, .int .i64 a0_1, .slice A0_2 l0_2.length c0_2] 25 (0, 0)) (by (with_reducible repeat (first | refine blk_drewN ?_ _ | refine blk_drew ?_ | refine blk_alloc ?_ _)); exact BK237.out) k_ hn_)), Or.elim hk_ (fun hs_ => ((Kd.R_types (Kd.R_types (Kd.R_types (Kd.R_apart' (HO_254002.out) (Kd.R_typed HO_7.out) (by decide)) BK237.out (by decide)) BK244.out (by decide)) BK253.out (by decide)).1 k_ hs_.symm).1.2) (fun hn_ => (Kd.freshB (g := gb244) (o := .cells #[.int .u64 t239, .int .i64 t240, .slice Ao21 t241.length co21] 30 (0, 0)) (by (with_reducible repeat (first | refine blk_drewN ?_ _ | refine blk_drew ?_ | refine blk_alloc ?_ _)); exact BK244.out) k_ hn_)), Or.elim hk_ (fun hs_ => ((Kd.R_types (Kd.R_types (Kd.R_types (Kd.R_apart' (HO_254002.out) (Kd.R_typed HO_7.out) (by decide)) BK237.out (by decide)) BK244.out (by decide)) BK253.out (by decide)).1 k_ hs_.symm).2) (fun hn_ => (Kd.freshB (g := gb253) (o := .cells #[.int .u64 t245, .int .i64 t246, .slice Ao30 t247.length co30] 25 (0, 0)) (by (with_reducible repeat (first | refine blk_drewN ?_ _ | refine blk_drew ?_ | refine blk_alloc ?_ _)); exact BK253.out) k_ hn_))⟩)) (below_size (by repeat (first | (with_reducible first | exact HB.out | apply below_alloc | apply pw_below_drewN | apply below_drew1 | refine below_set ?_ GE237.out | refine below_set ?_ GE244.out | refine below_set ?_ GE253.out) | exact HB.out))))
                          have n4_ := Aside0.mk (blk_below (g := gb237) (o := .cells #[.int .u64 a0_0, .int .i64 a0_1, .slice A0_2 l0_2.length c0_2] 25 (0, 0)) (by (with_reducible repeat (first | refine blk_drewN ?_ _ | refine blk_drew ?_ | refine blk_alloc ?_ _)); exact BK237.out) hb)
                          have n5_ := Aside0.mk (blk_below (g := gb244) (o := .cells #[.int .u64 t239, .int .i64 t240, .slice Ao21 t241.length co21] 30 (0, 0)) (by (with_reducible repeat (first | refine blk_drewN ?_ _ | refine blk_drew ?_ | refine blk_alloc ?_ _)); exact BK244.out) hb)
                          have n6_ := Aside0.mk (blk_below (g := gb253) (o := .cells #[.int .u64 t245, .int .i64 t246, .slice Ao30 t247.length co30] 25 (0, 0)) (by (with_reducible repeat (first | refine blk_drewN ?_ _ | refine blk_drew ?_ | refine blk_alloc ?_ _)); exact BK253.out) hb)
                          have n7_ := Aside0.mk (below_step (by repeat (first | (with_reducible first | exact HB.out | apply below_alloc | apply pw_below_drewN | apply below_drew1 | refine below_set ?_ GE237.out | refine below_set ?_ GE244.out | refine below_set ?_ GE253.out) | exact HB.out)) hb)
                          clear HO_7
                          clear HO_245002
                          clear HO_254002
                          clear BK237
                          clear BK244
                          clear BK253
                          clear HB
                          have HO_7 := n0_
                          have HO_245002 := n1_
                          have HO_254002 := n2_
                          have HO261 := n3_
                          have BK237 := n4_
                          have BK244 := n5_
                          have BK253 := n6_
                          have HB := n7_
                          clear n0_ n1_ n2_ n3_ n4_ n5_ n6_ n7_
                          (try clear hb)
                          (try clear hb2)
                          (try clear hk)
                          (try clear hi)
                          (try clear ho0)
                          obtain ⟨Ao98, co98, eo98⟩ := Kd.V_slice HO261.out
                          (first | subst eo98 | (injection eo98 with f1_ f2_ f3_; have f4_ := f1_.symm; have f5_ := f3_.symm; clear f1_ f2_ f3_; subst f4_; subst f5_))
                          refine hK.out _ _ ⟨(blk_cell BK237.out 0).trans rfl, (blk_cell BK237.out 1).trans rfl, (blk_cell BK237.out 2).trans rfl, (blk_cell BK253.out 0).trans rfl, (blk_cell BK253.out 1).trans rfl, (blk_cell BK253.out 2).trans rfl, (blk_cell BK244.out 0).trans rfl, (blk_cell BK244.out 1).trans rfl, (blk_cell BK244.out 2).trans rfl⟩ (fun hHeld => ?_)
                          clear hK K
                          refine norm_ (a' := ?_) ?_ ?_
                          rotate_left
                          · show Act.put _ (some 55) _ = _
                            simp only [Act.put, List.setIfInBounds_toArray, List.set_cons_zero, List.set_cons_succ, i64_w, i32_w]
                            rfl
                          refine one_ (i := 7) (N := some 57) #[true, true, true, true, true, true, true, true, false, false, false, false, false, false, false, false, false, false, false, false, false, false, false, false, false, false, false, false, false] rfl rfl (one_of HT_.out (by kernel_rfl)) (by decide) (fun K hK => ?_)
                          refine goes_ Try.func10 (by kernel_rfl) rfl #[.agg #[.int .u64 t257, .int .i64 t258, .slice Ao98 t259.length co98], .agg #[.int .u64 t239, .int .i64 t240, .slice Ao21 t241.length co21]] (by rfl) rfl rfl (by (try simp only [List.map_toArray, List.map_cons, List.map_nil]); first | done | rfl | (simp only [List.length_drop, List.length_take]; rfl)) ?_
                          with_reducible refine (rillmeterref10_Equal.calls k2 t257 t258 _ _ t259 t239 t240 _ _ t241 true _ ?side1 ?side2 ?side3 ?side4 A83.out).mono ?_
                          (case side1 => repeat (first | exact (Kd.V_reads' HO261.out).2.2 | (with_reducible refine Kd.C_alloc ?_ _) | (with_reducible refine Kd.C_drewN ?_ _) | (with_reducible refine Kd.C_drew ?_)))
                          (case side2 => exact (Kd.V_reads' HO261.out).2.1)
                          (case side3 => repeat (first | exact (Kd.V_reads' HO_245002.out).2.2 | (with_reducible refine Kd.C_alloc ?_ _) | (with_reducible refine Kd.C_drewN ?_ _) | (with_reducible refine Kd.C_drew ?_)))
                          (case side4 => exact (Kd.V_reads' HO_245002.out).2.1)
                          rintro e w99 ⟨rfl, hb⟩
                          refine ⟨_, rfl, ?_⟩
                          have n0_ := Aside0.mk (Kd.R_below (by (with_reducible repeat (first | apply Kd.R_alloc | apply Kd.R_drewN | apply Kd.R_drew)); exact HO_7.out) hb)
                          have n1_ := Aside0.mk (Kd.V_below (by (with_reducible repeat (first | apply Kd.V_alloc | apply Kd.V_drewN | apply Kd.V_drew)); exact HO_245002.out) hb)
                          have n2_ := Aside0.mk (Kd.R_below (by (with_reducible repeat (first | apply Kd.R_alloc | apply Kd.R_drewN | apply Kd.R_drew)); exact HO_254002.out) hb)
                          have n3_ := Aside0.mk (Kd.V_below (by (with_reducible repeat (first | apply Kd.V_alloc | apply Kd.V_drewN | apply Kd.V_drew)); exact HO261.out) hb)
                          have n4_ := Aside0.mk (blk_below (g := gb237) (o := .cells #[.int .u64 a0_0, .int .i64 a0_1, .slice A0_2 l0_2.length c0_2] 25 (0, 0)) (by (with_reducible repeat (first | refine blk_drewN ?_ _ | refine blk_drew ?_ | refine blk_alloc ?_ _)); exact BK237.out) hb)
                          have n5_ := Aside0.mk (blk_below (g := gb244) (o := .cells #[.int .u64 t239, .int .i64 t240, .slice Ao21 t241.length co21] 30 (0, 0)) (by (with_reducible repeat (first | refine blk_drewN ?_ _ | refine blk_drew ?_ | refine blk_alloc ?_ _)); exact BK244.out) hb)
                          have n6_ := Aside0.mk (blk_below (g := gb253) (o := .cells #[.int .u64 t245, .int .i64 t246, .slice Ao30 t247.length co30] 25 (0, 0)) (by (with_reducible repeat (first | refine blk_drewN ?_ _ | refine blk_drew ?_ | refine blk_alloc ?_ _)); exact BK253.out) hb)
                          have n7_ := Aside0.mk (below_step (by repeat (first | (with_reducible first | exact HB.out | apply below_alloc | apply pw_below_drewN | apply below_drew1 | refine below_set ?_ GE237.out | refine below_set ?_ GE244.out | refine below_set ?_ GE253.out) | exact HB.out)) hb)
                          clear HO_7
                          clear HO_245002
                          clear HO_254002
                          clear HO261
                          clear BK237
                          clear BK244
                          clear BK253
                          clear HB
                          have HO_7 := n0_
                          have HO_245002 := n1_
                          have HO_254002 := n2_
                          have HO261 := n3_
                          have BK237 := n4_
                          have BK244 := n5_
                          have BK253 := n6_
                          have HB := n7_
                          clear n0_ n1_ n2_ n3_ n4_ n5_ n6_ n7_
                          (try clear hb)
                          (try clear hb2)
                          (try clear hk)
                          (try clear hi)
                          obtain ⟨Ao100, co100, eo100⟩ := Kd.R_slice HO_7.out
                          (first | subst eo100 | (injection eo100 with f1_ f2_ f3_; have f4_ := f1_.symm; have f5_ := f3_.symm; clear f1_ f2_ f3_; subst f4_; subst f5_))
                          refine hK.out _ _ ⟨(blk_cell BK237.out 0).trans rfl, (blk_cell BK237.out 1).trans rfl, (blk_cell BK237.out 2).trans rfl, (blk_cell BK253.out 0).trans rfl, (blk_cell BK253.out 1).trans rfl, (blk_cell BK253.out 2).trans rfl, (blk_cell BK244.out 0).trans rfl, (blk_cell BK244.out 1).trans rfl, (blk_cell BK244.out 2).trans rfl⟩ (fun hHeld => ?_)
                          clear hK K
                          refine norm_ (a' := ?_) ?_ ?_
                          rotate_left
                          · show Act.put _ (some 57) _ = _
                            simp only [Act.put, List.setIfInBounds_toArray, List.set_cons_zero, List.set_cons_succ, i64_w, i32_w]
                            rfl
                          refine pure_ (i := 8) (N := some 58) (v := ?_) (a' := ?_) #[true, true, true, true, true, true, true, true, true, false, false, false, false, false, false, false, false, false, false, false, false, false, false, false, false, false, false, false, false] rfl rfl (any_of HT_.out (by kernel_rfl)) (fun _ _ _ h => h) (Or.inl ⟨by rfl, ?_⟩) ?_ ?_
                          rotate_left
                          · intro w'
                            go_simp
                            with_reducible rfl
                          rotate_left
                          · simp only [Act.put, List.setIfInBounds_toArray, List.set_cons_zero, List.set_cons_succ, i64_w, i32_w]
                            rfl
                          refine pure_ (i := 9) (N := some 59) (v := ?_) (a' := ?_) #[true, true, true, true, true, true, true, true, true, true, false, false, false, false, false, false, false, false, false, false, false, false, false, false, false, false, false, false, false] rfl rfl (any_of HT_.out (by kernel_rfl)) (fun _ _ _ h => h) (Or.inl ⟨by rfl, ?_⟩) ?_ ?_
                          rotate_left
                          · intro w'
                            go_simp
                            with_reducible rfl
                          rotate_left
                          · simp only [Act.put, List.setIfInBounds_toArray, List.set_cons_zero, List.set_cons_succ, i64_w, i32_w]
                            rfl
                          refine pure_ (i := 10) (N := some 60) (v := ?_) (a' := ?_) #[true, true, true, true, true, true, true, true, true, true, true, false, false, false, false, false, false, false, false, false, false, false, false, false, false, false, false, false, false] rfl rfl (any_of HT_.out (by kernel_rfl)) (fun _ _ _ h => h) (Or.inl ⟨by rfl, ?_⟩) ?_ ?_
                          rotate_left
                          · intro w'
                            go_simp
                            with_reducible rfl
                          rotate_left
                          · simp only [Act.put, List.setIfInBounds_toArray, List.set_cons_zero, List.set_cons_succ, i64_w, i32_w]
                            rfl
                          refine pure_ (i := 11) (N := some 61) (v := ?_) (a' := ?_) #[true, true, true, true, true, true, true, true, true, true, true, true, false, false, false, false, false, false, false, false, false, false, false, false, false, false, false, false, false] rfl rfl (any_of HT_.out (by kernel_rfl)) (fun _ _ _ h => h) (Or.inl ⟨by rfl, ?_⟩) ?_ ?_
                          rotate_left
                          · intro w'
                            go_simp
                            with_reducible rfl
                          rotate_left
                          · simp only [Act.put, List.setIfInBounds_toArray, List.set_cons_zero, List.set_cons_succ, i64_w, i32_w]
                            rfl
                          refine pure_ (i := 12) (N := some 62) (v := ?_) (a' := ?_) #[true, true, true, true, true, true, true, true, true, true, true, true, true, false, false, false, false, false, false, false, false, false, false, false, false, false, false, false, false] rfl rfl (any_of HT_.out (by kernel_rfl)) (fun _ _ _ h => h) (Or.inl ⟨by rfl, ?_⟩) ?_ ?_
                          rotate_left
                          · intro w'
                            go_simp
                            with_reducible rfl
                          rotate_left
                          · simp only [Act.put, List.setIfInBounds_toArray, List.set_cons_zero, List.set_cons_succ, i64_w, i32_w]
                            rfl
                          refine pure_ (i := 13) (N := some 63) (v := ?_) (a' := ?_) #[true, true, true, true, true, true, true, true, true, true, true, true, true, true, false, false, false, false, false, false, false, false, false, false, false, false, false, false, false] rfl rfl (any_of HT_.out (by kernel_rfl)) (fun _ _ _ h => h) (Or.inl ⟨by rfl, ?_⟩) ?_ ?_
                          rotate_left
                          · intro w'
                            go_simp
                            with_reducible rfl
                          rotate_left
                          · simp only [Act.put, List.setIfInBounds_toArray, List.set_cons_zero, List.set_cons_succ, i64_w, i32_w]
                            rfl
                          refine pure_ (i := 14) (N := some 64) (v := ?_) (a' := ?_) #[true, true, true, true, true, true, true, true, true, true, true, true, true, true, true, false, false, false, false, false, false, false, false, false, false, false, false, false, false] rfl rfl (any_of HT_.out (by kernel_rfl)) (fun _ _ _ h => h) (Or.inl ⟨by rfl, ?_⟩) ?_ ?_
                          rotate_left
                          · intro w'
                            go_simp
                            with_reducible rfl
                          rotate_left
                          · simp only [Act.put, List.setIfInBounds_toArray, List.set_cons_zero, List.set_cons_succ, i64_w, i32_w]
                            rfl
                          refine pure_ (i := 16) (N := some 66) (v := ?_) (a' := ?_) #[true, true, true, true, true, true, true, true, true, true, true, true, true, true, true, false, true, false, false, false, false, false, false, false, false, false, false, false, false] rfl rfl (any_of HT_.out (by kernel_rfl)) (fun _ _ _ h => h) (Or.inl ⟨by rfl, ?_⟩) ?_ ?_
                          rotate_left
                          · intro w'
                            go_simp
                            with_reducible rfl
                          rotate_left
                          · simp only [Act.put, List.setIfInBounds_toArray, List.set_cons_zero, List.set_cons_succ, i64_w, i32_w]
                            rfl
                          refine take_ (i := 15) (N := some 65) (v := ?_) (a' := ?_) #[true, true, true, true, true, true, true, true, true, true, true, true, true, true, true, true, true, false, false, false, false, false, false, false, false, false, false, false, false] rfl rfl (take_ofW HT_.out HW_.out (by kernel_rfl)) (fun _ _ _ h => h) (Or.inl ⟨by rfl, ?_⟩) hHeld ?_ ?_
                          rotate_left
                          · rintro w' ⟨s0, s1, s2, s3, s4, s5, s6, s7, s8⟩
                            go_simp
                            with_reducible rfl
                          rotate_left
                          · simp only [Act.put, List.setIfInBounds_toArray, List.set_cons_zero, List.set_cons_succ, i64_w, i32_w]
                            rfl
                          refine one_ (i := 17) (N := some 67) #[true, true, true, true, true, true, true, true, true, true, true, true, true, true, true, true, true, true, false, false, false, false, false, false, false, false, false, false, false] rfl rfl (one_of HT_.out (by kernel_rfl)) (by decide) (fun K hK => ?_)
                          refine goes_ Try.func19 (by kernel_rfl) rfl #[.agg #[.int .u64 a0_0, .int .i64 a0_1, .slice A0_2 l0_2.length c0_2], .string a1] (by rfl) rfl rfl (by (try simp only [List.map_toArray, List.map_cons, List.map_nil]); first | done | rfl | (simp only [List.length_drop, List.length_take]; rfl)) ?_
                          with_reducible refine (bloom_Has.calls k2 a0_0 a0_1 _ _ l0_2 a1 false _ ?side1 ?side2 A86.out).mono ?_
                          (case side1 => repeat (first | exact (Kd.C_below HR0_2.out HB.out) | (with_reducible refine Kd.C_alloc ?_ _) | (with_reducible refine Kd.C_drewN ?_ _) | (with_reducible refine Kd.C_drew ?_)))
                          (case side2 => exact HC0_2.out)
                          rintro e w101 ⟨rfl, hb⟩
                          refine ⟨_, rfl, ?_⟩
                          have n0_ := Aside0.mk (Kd.R_below (by (with_reducible repeat (first | apply Kd.R_alloc | apply Kd.R_drewN | apply Kd.R_drew)); exact HO_7.out) hb)
                          have n1_ := Aside0.mk (Kd.V_below (by (with_reducible repeat (first | apply Kd.V_alloc | apply Kd.V_drewN | apply Kd.V_drew)); exact HO_245002.out) hb)
                          have n2_ := Aside0.mk (Kd.R_below (by (with_reducible repeat (first | apply Kd.R_alloc | apply Kd.R_drewN | apply Kd.R_drew)); exact HO_254002.out) hb)
                          have n3_ := Aside0.mk (Kd.V_below (by (with_reducible repeat (first | apply Kd.V_alloc | apply Kd.V_drewN | apply Kd.V_drew)); exact HO261.out) hb)
                          have n4_ := Aside0.mk (blk_below (g := gb237) (o := .cells #[.int .u64 a0_0, .int .i64 a0_1, .slice A0_2 l0_2.length c0_2] 25 (0, 0)) (by (with_reducible repeat (first | refine blk_drewN ?_ _ | refine blk_drew ?_ | refine blk_alloc ?_ _)); exact BK237.out) hb)
                          have n5_ := Aside0.mk (blk_below (g := gb244) (o := .cells #[.int .u64 t239, .int .i64 t240, .slice Ao21 t241.length co21] 30 (0, 0)) (by (with_reducible repeat (first | refine blk_drewN ?_ _ | refine blk_drew ?_ | refine blk_alloc ?_ _)); exact BK244.out) hb)
                          have n6_ := Aside0.mk (blk_below (g := gb253) (o := .cells #[.int .u64 t245, .int .i64 t246, .slice Ao30 t247.length co30] 25 (0, 0)) (by (with_reducible repeat (first | refine blk_drewN ?_ _ | refine blk_drew ?_ | refine blk_alloc ?_ _)); exact BK253.out) hb)
                          have n7_ := Aside0.mk (below_step (by repeat (first | (with_reducible first | exact HB.out | apply below_alloc | apply pw_below_drewN | apply below_drew1 | refine below_set ?_ GE237.out | refine below_set ?_ GE244.out | refine below_set ?_ GE253.out) | exact HB.out)) hb)
                          clear HO_7
                          clear HO_245002
                          clear HO_254002
                          clear HO261
                          clear BK237
                          clear BK244
                          clear BK253
                          clear HB
                          have HO_7 := n0_
                          have HO_245002 := n1_
                          have HO_254002 := n2_
                          have HO261 := n3_
                          have BK237 := n4_
                          have BK244 := n5_
                          have BK253 := n6_
                          have HB := n7_
                          clear n0_ n1_ n2_ n3_ n4_ n5_ n6_ n7_
                          (try clear hb)
                          (try clear hb2)
                          (try clear hk)
                          (try clear hi)
                          refine hK.out _ _ ⟨(blk_cell BK237.out 0).trans rfl, (blk_cell BK237.out 1).trans rfl, (blk_cell BK237.out 2).trans rfl, (blk_cell BK253.out 0).trans rfl, (blk_cell BK253.out 1).trans rfl, (blk_cell BK253.out 2).trans rfl, (blk_cell BK244.out 0).trans rfl, (blk_cell BK244.out 1).trans rfl, (blk_cell BK244.out 2).trans rfl⟩ (fun hHeld => ?_)
                          clear hK K
                          refine norm_ (a' := ?_) ?_ ?_
                          rotate_left
                          · show Act.put _ (some 67) _ = _
                            simp only [Act.put, List.setIfInBounds_toArray, List.set_cons_zero, List.set_cons_succ, i64_w, i32_w]
                            rfl
                          refine pure_ (i := 18) (N := some 68) (v := ?_) (a' := ?_) #[true, true, true, true, true, true, true, true, true, true, true, true, true, true, true, true, true, true, true, false, false, false, false, false, false, false, false, false, false] rfl rfl (any_of HT_.out (by kernel_rfl)) (fun _ _ _ h => h) (Or.inl ⟨by rfl, ?_⟩) ?_ ?_
                          rotate_left
                          · intro w'
                            go_simp
                            with_reducible rfl
                          rotate_left
                          · simp only [Act.put, List.setIfInBounds_toArray, List.set_cons_zero, List.set_cons_succ, i64_w, i32_w]
                            rfl
                          refine pure_ (i := 19) (N := some 69) (v := ?_) (a' := ?_) #[true, true, true, true, true, true, true, true, true, true, true, true, true, true, true, true, true, true, true, true, false, false, false, false, false, false, false, false, false] rfl rfl (any_of HT_.out (by kernel_rfl)) (fun _ _ _ h => h) (Or.inl ⟨by rfl, ?_⟩) ?_ ?_
                          rotate_left
                          · intro w'
                            go_simp
                            with_reducible rfl
                          rotate_left
                          · simp only [Act.put, List.setIfInBounds_toArray, List.set_cons_zero, List.set_cons_succ, i64_w, i32_w]
                            rfl
                          refine pure_ (i := 20) (N := some 70) (v := ?_) (a' := ?_) #[true, true, true, true, true, true, true, true, true, true, true, true, true, true, true, true, true, true, true, true, true, false, false, false, false, false, false, false, false] rfl rfl (any_of HT_.out (by kernel_rfl)) (fun _ _ _ h => h) (Or.inl ⟨by rfl, ?_⟩) ?_ ?_
                          rotate_left
                          · intro w'
                            go_simp
                            with_reducible rfl
                          rotate_left
                          · simp only [Act.put, List.setIfInBounds_toArray, List.set_cons_zero, List.set_cons_succ, i64_w, i32_w]
                            rfl
                          refine take_ (i := 21) (N := some 71) (v := ?_) (a' := ?_) #[true, true, true, true, true, true, true, true, true, true, true, true, true, true, true, true, true, true, true, true, true, true, false, false, false, false, false, false, false] rfl rfl (take_ofW HT_.out HW_.out (by kernel_rfl)) (fun _ _ _ h => h) (Or.inl ⟨by rfl, ?_⟩) hHeld ?_ ?_
                          rotate_left
                          · rintro w' ⟨s0, s1, s2, s3, s4, s5, s6, s7, s8⟩
                            go_simp
                            with_reducible rfl
                          rotate_left
                          · simp only [Act.put, List.setIfInBounds_toArray, List.set_cons_zero, List.set_cons_succ, i64_w, i32_w]
                            rfl
                          refine one_ (i := 22) (N := some 72) #[true, true, true, true, true, true, true, true, true, true, true, true, true, true, true, true, true, true, true, true, true, true, true, false, false, false, false, false, false] rfl rfl (one_of HT_.out (by kernel_rfl)) (by decide) (fun K hK => ?_)
                          refine goes_ Try.func15 (by kernel_rfl) rfl #[.agg #[.int .u64 a0_0, .int .i64 a0_1, .slice A0_2 l0_2.length c0_2]] (by rfl) rfl rfl (by (try simp only [List.map_toArray, List.map_cons, List.map_nil]); first | done | rfl | (simp only [List.length_drop, List.length_take]; rfl)) ?_
                          with_reducible refine (bloom_Set.calls k2 a0_0 a0_1 _ _ l0_2 t264 _ ?side1 ?side2 A88.out).mono ?_
                          (case side1 => repeat (first | exact (Kd.C_below HR0_2.out HB.out) | (with_reducible refine Kd.C_alloc ?_ _) | (with_reducible refine Kd.C_drewN ?_ _) | (with_reducible refine Kd.C_drew ?_)))
                          (case side2 => exact HC0_2.out)
                          rintro e w102 ⟨rfl, hb⟩
                          refine ⟨_, rfl, ?_⟩
                          have n0_ := Aside0.mk (Kd.R_below (by (with_reducible repeat (first | apply Kd.R_alloc | apply Kd.R_drewN | apply Kd.R_drew)); exact HO_7.out) hb)
                          have n1_ := Aside0.mk (Kd.V_below (by (with_reducible repeat (first | apply Kd.V_alloc | apply Kd.V_drewN | apply Kd.V_drew)); exact HO_245002.out) hb)
                          have n2_ := Aside0.mk (Kd.R_below (by (with_reducible repeat (first | apply Kd.R_alloc | apply Kd.R_drewN | apply Kd.R_drew)); exact HO_254002.out) hb)
                          have n3_ := Aside0.mk (Kd.V_below (by (with_reducible repeat (first | apply Kd.V_alloc | apply Kd.V_drewN | apply Kd.V_drew)); exact HO261.out) hb)
                          have n4_ := Aside0.mk (blk_below (g := gb237) (o := .cells #[.int .u64 a0_0, .int .i64 a0_1, .slice A0_2 l0_2.length c0_2] 25 (0, 0)) (by (with_reducible repeat (first | refine blk_drewN ?_ _ | refine blk_drew ?_ | refine blk_alloc ?_ _)); exact BK237.out) hb)
                          have n5_ := Aside0.mk (blk_below (g := gb244) (o := .cells #[.int .u64 t239, .int .i64 t240, .slice Ao21 t241.length co21] 30 (0, 0)) (by (with_reducible repeat (first | refine blk_drewN ?_ _ | refine blk_drew ?_ | refine blk_alloc ?_ _)); exact BK244.out) hb)
                          have n6_ := Aside0.mk (blk_below (g := gb253) (o := .cells #[.int .u64 t245, .int .i64 t246, .slice Ao30 t247.length co30] 25 (0, 0)) (by (with_reducible repeat (first | refine blk_drewN ?_ _ | refine blk_drew ?_ | refine blk_alloc ?_ _)); exact BK253.out) hb)
                          have n7_ := Aside0.mk (below_step (by repeat (first | (with_reducible first | exact HB.out | apply below_alloc | apply pw_below_drewN | apply below_drew1 | refine below_set ?_ GE237.out | refine below_set ?_ GE244.out | refine below_set ?_ GE253.out) | exact HB.out)) hb)
                          clear HO_7
                          clear HO_245002
                          clear HO_254002
                          clear HO261
                          clear BK237
                          clear BK244
                          clear BK253
                          clear HB
                          have HO_7 := n0_
                          have HO_245002 := n1_
                          have HO_254002 := n2_
                          have HO261 := n3_
                          have BK237 := n4_
                          have BK244 := n5_
                          have BK253 := n6_
                          have HB := n7_
                          clear n0_ n1_ n2_ n3_ n4_ n5_ n6_ n7_
                          (try clear hb)
                          (try clear hb2)
                          (try clear hk)
                          (try clear hi)
                          refine hK.out _ _ ⟨(blk_cell BK237.out 0).trans rfl, (blk_cell BK237.out 1).trans rfl, (blk_cell BK237.out 2).trans rfl, (blk_cell BK253.out 0).trans rfl, (blk_cell BK253.out 1).trans rfl, (blk_cell BK253.out 2).trans rfl, (blk_cell BK244.out 0).trans rfl, (blk_cell BK244.out 1).trans rfl, (blk_cell BK244.out 2).trans rfl⟩ (fun hHeld => ?_)
                          clear hK K
                          refine norm_ (a' := ?_) ?_ ?_
                          rotate_left
                          · show Act.put _ (some 72) _ = _
                            simp only [Act.put, List.setIfInBounds_toArray, List.set_cons_zero, List.set_cons_succ, i64_w, i32_w]
                            rfl
                          refine pure_ (i := 23) (N := some 73) (v := ?_) (a' := ?_) #[true, true, true, true, true, true, true, true, true, true, true, true, true, true, true, true, true, true, true, true, true, true, true, true, false, false, false, false, false] rfl rfl (any_of HT_.out (by kernel_rfl)) (fun _ _ _ h => h) (Or.inl ⟨by rfl, ?_⟩) ?_ ?_
                          rotate_left
                          · intro w'
                            go_simp
                            with_reducible rfl
                          rotate_left
                          · simp only [Act.put, List.setIfInBounds_toArray, List.set_cons_zero, List.set_cons_succ, i64_w, i32_w]
                            rfl
                          refine pure_ (i := 24) (N := some 74) (v := ?_) (a' := ?_) #[true, true, true, true, true, true, true, true, true, true, true, true, true, true, true, true, true, true, true, true, true, true, true, true, true, false, false, false, false] rfl rfl (any_of HT_.out (by kernel_rfl)) (fun _ _ _ h => h) (Or.inl ⟨by rfl, ?_⟩) ?_ ?_
                          rotate_left
                          · intro w'
                            go_simp
                            with_reducible rfl
                          rotate_left
                          · simp only [Act.put, List.setIfInBounds_toArray, List.set_cons_zero, List.set_cons_succ, i64_w, i32_w]
                            rfl
                          refine pure_ (i := 25) (N := some 75) (v := ?_) (a' := ?_) #[true, true, true, true, true, true, true, true, true, true, true, true, true, true, true, true, true, true, true, true, true, true, true, true, true, true, false, false, false] rfl rfl (any_of HT_.out (by kernel_rfl)) (fun _ _ _ h => h) (Or.inl ⟨by rfl, ?_⟩) ?_ ?_
                          rotate_left
                          · intro w'
                            go_simp
                            with_reducible rfl
                          rotate_left
                          · simp only [Act.put, List.setIfInBounds_toArray, List.set_cons_zero, List.set_cons_succ, i64_w, i32_w]
                            rfl
                          refine one_ (i := 26) (N := some 76) #[true, true, true, true, true, true, true, true, true, true, true, true, true, true, true, true, true, true, true, true, true, true, true, true, true, true, true, false, false] rfl rfl (one_of HT_.out (by kernel_rfl)) (by decide) (fun K hK => ?_)
                          refine goes_ Try.func12 (by kernel_rfl) rfl #[] (by rfl) rfl rfl (by (try simp only [List.map_toArray, List.map_cons, List.map_nil]); first | done | rfl | (simp only [List.length_drop, List.length_take]; rfl)) ?_
                          with_reducible refine (rillmeterlaw10_awake.calls k2  t265 _ A90.out).mono ?_
                          rintro e w103 ⟨rfl, hb⟩
                          refine ⟨_, rfl, ?_⟩
                          have n0_ := Aside0.mk (Kd.R_below (by (with_reducible repeat (first | apply Kd.R_alloc | apply Kd.R_drewN | apply Kd.R_drew)); exact HO_7.out) hb)
                          have n1_ := Aside0.mk (Kd.V_below (by (with_reducible repeat (first | apply Kd.V_alloc | apply Kd.V_drewN | apply Kd.V_drew)); exact HO_245002.out) hb)
                          have n2_ := Aside0.mk (Kd.R_below (by (with_reducible repeat (first | apply Kd.R_alloc | apply Kd.R_drewN | apply Kd.R_drew)); exact HO_254002.out) hb)
                          have n3_ := Aside0.mk (Kd.V_below (by (with_reducible repeat (first | apply Kd.V_alloc | apply Kd.V_drewN | apply Kd.V_drew)); exact HO261.out) hb)
                          have n4_ := Aside0.mk (blk_below (g := gb237) (o := .cells #[.int .u64 a0_0, .int .i64 a0_1, .slice A0_2 l0_2.length c0_2] 25 (0, 0)) (by (with_reducible repeat (first | refine blk_drewN ?_ _ | refine blk_drew ?_ | refine blk_alloc ?_ _)); exact BK237.out) hb)
                          have n5_ := Aside0.mk (blk_below (g := gb244) (o := .cells #[.int .u64 t239, .int .i64 t240, .slice Ao21 t241.length co21] 30 (0, 0)) (by (with_reducible repeat (first | refine blk_drewN ?_ _ | refine blk_drew ?_ | refine blk_alloc ?_ _)); exact BK244.out) hb)
                          have n6_ := Aside0.mk (blk_below (g := gb253) (o := .cells #[.int .u64 t245, .int .i64 t246, .slice Ao30 t247.length co30] 25 (0, 0)) (by (with_reducible repeat (first | refine blk_drewN ?_ _ | refine blk_drew ?_ | refine blk_alloc ?_ _)); exact BK253.out) hb)
                          have n7_ := Aside0.mk (below_step (by repeat (first | (with_reducible first | exact HB.out | apply below_alloc | apply pw_below_drewN | apply below_drew1 | refine below_set ?_ GE237.out | refine below_set ?_ GE244.out | refine below_set ?_ GE253.out) | exact HB.out)) hb)
                          clear HO_7
                          clear HO_245002
                          clear HO_254002
                          clear HO261
                          clear BK237
                          clear BK244
                          clear BK253
                          clear HB
                          have HO_7 := n0_
                          have HO_245002 := n1_
                          have HO_254002 := n2_
                          have HO261 := n3_
                          have BK237 := n4_
                          have BK244 := n5_
                          have BK253 := n6_
                          have HB := n7_
                          clear n0_ n1_ n2_ n3_ n4_ n5_ n6_ n7_
                          (try clear hb)
                          (try clear hb2)
                          (try clear hk)
                          (try clear hi)
                          refine hK.out _ _ ⟨(blk_cell BK237.out 0).trans rfl, (blk_cell BK237.out 1).trans rfl, (blk_cell BK237.out 2).trans rfl, (blk_cell BK253.out 0).trans rfl, (blk_cell BK253.out 1).trans rfl, (blk_cell BK253.out 2).trans rfl, (blk_cell BK244.out 0).trans rfl, (blk_cell BK244.out 1).trans rfl, (blk_cell BK244.out 2).trans rfl⟩ (fun hHeld => ?_)
                          clear hK K
                          refine norm_ (a' := ?_) ?_ ?_
                          rotate_left
                          · show Act.put _ (some 76) _ = _
                            simp only [Act.put, List.setIfInBounds_toArray, List.set_cons_zero, List.set_cons_succ, i64_w, i32_w]
                            rfl
                          refine pure_ (i := 27) (N := some 77) (v := ?_) (a' := ?_) #[true, true, true, true, true, true, true, true, true, true, true, true, true, true, true, true, true, true, true, true, true, true, true, true, true, true, true, true, false] rfl rfl (any_of HT_.out (by kernel_rfl)) (fun _ _ _ h => h) (Or.inl ⟨by rfl, ?_⟩) ?_ ?_
                          rotate_left
                          · intro w'
                            go_simp
                            with_reducible rfl
                          rotate_left
                          · simp only [Act.put, List.setIfInBounds_toArray, List.set_cons_zero, List.set_cons_succ, i64_w, i32_w]
                            rfl
                          refine pure_ (i := 28) (N := some 4) (v := ?_) (a' := ?_) #[true, true, true, true, true, true, true, true, true, true, true, true, true, true, true, true, true, true, true, true, true, true, true, true, true, true, true, true, true] rfl rfl (any_of HT_.out (by kernel_rfl)) (fun _ _ _ h => h) (Or.inl ⟨by rfl, ?_⟩) ?_ ?_
                          rotate_left
                          · intro w'
                            go_simp
                            with_reducible rfl
                          rotate_left
                          · simp only [Act.put, List.setIfInBounds_toArray, List.set_cons_zero, List.set_cons_succ, i64_w, i32_w]
                            rfl
                          refine done_ (done_of HT_.out (by kernel_rfl)) ?_
                          try go_wp2
                          go_ret
                          exact ⟨by first | rfl | (simp [errW_none, errW_some] <;> rfl) | (simp [*, errW_none, errW_some] <;> rfl), by repeat (first | (with_reducible first | exact HB.out | apply below_alloc | apply pw_below_drewN | apply below_drew1 | refine below_set ?_ GE237.out | refine below_set ?_ GE244.out | refine below_set ?_ GE253.out) | exact HB.out)⟩
                        · rw [if_neg c89] at H
                          have c89b0 : (t264 == 0) = false := beq_eq_false_iff_ne.mpr c89
                          have c89b1 : (t264 != 0) = true := bne_iff_ne.mpr c89
                          exact absurd ((Option.some.inj H).trans hrt.out) (by decide)
                    · rw [if_neg c85] at H
                      have c85b0 : ((t250.length : Int) == 0) = false := beq_eq_false_iff_ne.mpr c85
                      have c85b1 : ((t250.length : Int) != 0) = true := bne_iff_ne.mpr c85
                      have c85b2 : ¬ (t250 = []) := fun h_ => c85 (by rw [h_]; rfl)
                      exact absurd ((Option.some.inj H).trans hrt.out) (by decide)
                  · replace c84 := Bool.eq_false_iff.mpr c84
                    subst c84
                    have H1 : (some false) = some r := by rw [if_neg (show ¬ (false = true) by decide)] at H; exact H
                    clear H
                    have H := H1
                    clear H1
                    exact absurd ((Option.some.inj H).trans hrt.out) (by decide)

end Go.Proofs.Ytmlcafnnhpfpaaa.PBloomTurns
