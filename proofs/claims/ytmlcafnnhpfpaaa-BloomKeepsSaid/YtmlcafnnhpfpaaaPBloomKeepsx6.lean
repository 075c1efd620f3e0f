/- The functions that a law uses, each as a plain function, with the proof that a call of the Go function comes to its answer. Condition of each: the arguments read as the data that it names, and the plain function has an answer. Written by a program of this session (standin.py). -/
import Derived.Test.YtmlcafnnhpfpaaaPBloomKeepsx0
import Derived.Test.YtmlcafnnhpfpaaaPBloomKeepsx1
import Derived.Test.YtmlcafnnhpfpaaaPBloomKeepsx3
import Derived.Test.YtmlcafnnhpfpaaaPBloomKeepsx4
import Derived.Test.YtmlcafnnhpfpaaaPBloomKeepsx5
import Derived.Test.YtmlcafnnhpfpaaaShort
import Derived.Lib.SliceRun
import Derived.Test.YtmlcafnnhpfpaaaPressMore
namespace Go.Proofs.Ytmlcafnnhpfpaaa.PBloomKeeps
open Go.RowKit Go.Proofs.YtmlcafnnhpfpaaaW.PrintWords Go.Proofs.YtmlcafnnhpfpaaaW.PrintLast Go.Proofs.YtmlcafnnhpfpaaaW.PrintMore Go.Proofs.Ytmlcafnnhpfpaaa.Short Go.Proofs.Ytmlcafnnhpfpaaa.Press Go.Proofs.Ytmlcafnnhpfpaaa.PressMore
attribute [local go_sem] max2_int min2_int max_two min_two max_three min_three max_four min_four   -- for this text's walks alone
set_option linter.unusedVariables false
set_option linter.unusedSimpArgs false

/-! ### rillmeterlaw10_BloomKeeps: function 8 -/
mutual
def rillmeterlaw10_BloomKeeps.j0 : Nat → Int → Int → Int → List ByteArray → List ByteArray → Bool → Option (Bool)
  | 0, _, _, _, _, _, _ => none
  | k + 1, x0, x1, x2, x3, x4, x30 => if x30 = true then ((rillmeterlaw10_awake.f k).bind fun t207 => (some t207)) else ((bloom_New.f k x0 x1 x2).bind fun bt208 => (if bt208.2.2.2 = 0 then ((rillmeterlaw10_adds.f k bt208.1 bt208.2.1 bt208.2.2.1 x3).bind fun bt216 => ((rillmeterlaw10_adds.f k bt208.1 bt208.2.1 bt208.2.2.1 x4).bind fun bt221 => ((rillmeterlaw10_adds.f k bt216.1 bt216.2.1 bt216.2.2 x4).bind fun bt228 => ((rillmeterlaw10_adds.f k bt221.1 bt221.2.1 bt221.2.2 x3).bind fun bt233 => ((bloom_Merge.f k bt216.1 bt216.2.1 bt216.2.2 bt221.1 bt221.2.1 bt221.2.2).bind fun bt240 => ((some (([x3, x4] : List (List ByteArray)) : List (List ByteArray))).bind fun y247 => (rillmeterlaw10_BloomKeeps.l0 k bt240.2.2.2 y247 (y247.length : Int) 0 bt228.1 bt228.2.1 bt228.2.2 bt233.1 bt233.2.1 bt233.2.2 bt240.1 bt240.2.1 bt240.2.2.1))))))) else ((rillmeterlaw10_awake.f k).bind fun t215 => (some t215))))
def rillmeterlaw10_BloomKeeps.l0 : Nat → Int → List (List ByteArray) → Int → Int → Int → Int → List Bool → Int → Int → List Bool → Int → Int → List Bool → Option (Bool)
  | 0, _, _, _, _, _, _, _, _, _, _, _, _, _ => none
  | k + 1, x18, x62, x63, x64, x239000, x239001, x239002, x240000, x240001, x240002, x247000, x247001, x247002 => if x64 < x63 then (if 0 ≤ x64 then (if x64 < (x62.length : Int) then (rillmeterlaw10_BloomKeeps.l1 k x18 x62 x63 x64 (rd_L3 x62 x64) ((rd_L3 x62 x64).length : Int) 0 x239000 x239001 x239002 x240000 x240001 x240002 x247000 x247001 x247002) else (none)) else (none)) else (if x18 = 0 then ((rillmeterlaw10_ref.f x239000 x239001 x239002).bind fun bt253 => ((rillmeterlaw10_ref.f x240000 x240001 x240002).bind fun bt258 => ((rillmeterref10_Equal.f k bt253.1 bt253.2.1 bt253.2.2 bt258.1 bt258.2.1 bt258.2.2).bind fun t263 => (if t263 = true then ((rillmeterlaw10_ref.f x239000 x239001 x239002).bind fun bt264 => ((rillmeterlaw10_ref.f x247000 x247001 x247002).bind fun bt269 => ((rillmeterref10_Equal.f k bt264.1 bt264.2.1 bt264.2.2 bt269.1 bt269.2.1 bt269.2.2).bind fun t274 => (if t274 = true then ((rillmeterlaw10_awake.f k).bind fun t275 => (some t275)) else (some false))))) else (some false))))) else (some false))
def rillmeterlaw10_BloomKeeps.l1 : Nat → Int → List (List ByteArray) → Int → Int → List ByteArray → Int → Int → Int → Int → List Bool → Int → Int → List Bool → Int → Int → List Bool → Option (Bool)
  | 0, _, _, _, _, _, _, _, _, _, _, _, _, _, _, _, _ => none
  | k + 1, x18, x62, x63, x64, x68, x69, x70, x239000, x239001, x239002, x240000, x240001, x240002, x247000, x247001, x247002 => if x70 < x69 then (if 0 ≤ x70 then (if x70 < (x68.length : Int) then ((bloom_Has.f k x239000 x239001 x239002 (rdOf ByteArray.empty x68 x70)).bind fun t252 => (if t252 = true then (rillmeterlaw10_BloomKeeps.l1 k x18 x62 x63 x64 x68 x69 (wrap64 (x70 + 1)) x239000 x239001 x239002 x240000 x240001 x240002 x247000 x247001 x247002) else (some false))) else (none)) else (none)) else (rillmeterlaw10_BloomKeeps.l0 k x18 x62 x63 (wrap64 (x64 + 1)) x239000 x239001 x239002 x240000 x240001 x240002 x247000 x247001 x247002)
end
def rillmeterlaw10_BloomKeeps.f (k : Nat) (a0 : Int) (a1 : Int) (a2 : Int) (l3 : List ByteArray) (l4 : List ByteArray) : Option (Bool) := (rillmeterref10_Short.f k l3 30).bind fun t205 => (if t205 = true then ((rillmeterref10_Short.f k l4 30).bind fun t206 => (rillmeterlaw10_BloomKeeps.j0 k a0 a1 a2 l3 l4 (!t206))) else (rillmeterlaw10_BloomKeeps.j0 k a0 a1 a2 l3 l4 true))
theorem rillmeterlaw10_BloomKeeps.mono_l : ∀ k, (∀ y0 y1 y2 y3 y4 y5, LeO (rillmeterlaw10_BloomKeeps.j0 k y0 y1 y2 y3 y4 y5) (rillmeterlaw10_BloomKeeps.j0 (k + 1) y0 y1 y2 y3 y4 y5)) ∧ (∀ y0 y1 y2 y3 y4 y5 y6 y7 y8 y9 y10 y11 y12, LeO (rillmeterlaw10_BloomKeeps.l0 k y0 y1 y2 y3 y4 y5 y6 y7 y8 y9 y10 y11 y12) (rillmeterlaw10_BloomKeeps.l0 (k + 1) y0 y1 y2 y3 y4 y5 y6 y7 y8 y9 y10 y11 y12)) ∧ (∀ y0 y1 y2 y3 y4 y5 y6 y7 y8 y9 y10 y11 y12 y13 y14 y15, LeO (rillmeterlaw10_BloomKeeps.l1 k y0 y1 y2 y3 y4 y5 y6 y7 y8 y9 y10 y11 y12 y13 y14 y15) (rillmeterlaw10_BloomKeeps.l1 (k + 1) y0 y1 y2 y3 y4 y5 y6 y7 y8 y9 y10 y11 y12 y13 y14 y15))
  | 0 => ⟨fun _ _ _ _ _ _ r h => by simp [rillmeterlaw10_BloomKeeps.j0] at h, fun _ _ _ _ _ _ _ _ _ _ _ _ _ r h => by simp [rillmeterlaw10_BloomKeeps.l0] at h, fun _ _ _ _ _ _ _ _ _ _ _ _ _ _ _ _ r h => by simp [rillmeterlaw10_BloomKeeps.l1] at h⟩
  | k + 1 => by
    obtain ⟨ih0, ih1, ih2⟩ := rillmeterlaw10_BloomKeeps.mono_l k
    refine ⟨?_, ?_, ?_⟩
    · intro y0 y1 y2 y3 y4 y5
      unfold rillmeterlaw10_BloomKeeps.j0
      repeat' first
      | (with_reducible exact ih0 _ _ _ _ _ _)
      | (with_reducible exact ih1 _ _ _ _ _ _ _ _ _ _ _ _ _)
      | (with_reducible exact ih2 _ _ _ _ _ _ _ _ _ _ _ _ _ _ _ _)
      | (with_reducible exact bloom_Has.mono _ _ _ _ _)
      | (with_reducible exact bloom_Merge.mono _ _ _ _ _ _ _)
      | (with_reducible exact bloom_New.mono _ _ _ _)
      | (with_reducible exact rillmeterlaw10_adds.mono _ _ _ _ _)
      | (with_reducible exact rillmeterlaw10_awake.mono _)
      | (with_reducible exact rillmeterref10_Equal.mono _ _ _ _ _ _ _)
      | (with_reducible exact rillmeterref10_Short.mono _ _ _)
      | (with_reducible exact LeO.refl _)
      | (with_reducible exact LeO.none _)
      | (with_reducible refine LeO.ite ?_ ?_)
      | (with_reducible refine LeO.bind ?_ (fun _ => ?_))
      | exact ih0 _ _ _ _ _ _
      | exact ih1 _ _ _ _ _ _ _ _ _ _ _ _ _
      | exact ih2 _ _ _ _ _ _ _ _ _ _ _ _ _ _ _ _
      | exact bloom_Has.mono _ _ _ _ _
      | exact bloom_Merge.mono _ _ _ _ _ _ _
      | exact bloom_New.mono _ _ _ _
      | exact rillmeterlaw10_adds.mono _ _ _ _ _
      | exact rillmeterlaw10_awake.mono _
      | exact rillmeterref10_Equal.mono _ _ _ _ _ _ _
      | exact rillmeterref10_Short.mono _ _ _
      | exact LeO.none _
      | refine LeO.ite ?_ ?_
      | refine LeO.bind ?_ (fun _ => ?_)
    · intro y0 y1 y2 y3 y4 y5 y6 y7 y8 y9 y10 y11 y12
      unfold rillmeterlaw10_BloomKeeps.l0
      repeat' first
      | (with_reducible exact ih0 _ _ _ _ _ _)
      | (with_reducible exact ih1 _ _ _ _ _ _ _ _ _ _ _ _ _)
      | (with_reducible exact ih2 _ _ _ _ _ _ _ _ _ _ _ _ _ _ _ _)
      | (with_reducible exact bloom_Has.mono _ _ _ _ _)
      | (with_reducible exact bloom_Merge.mono _ _ _ _ _ _ _)
      | (with_reducible exact bloom_New.mono _ _ _ _)
      | (with_reducible exact rillmeterlaw10_adds.mono _ _ _ _ _)
      | (with_reducible exact rillmeterlaw10_awake.mono _)
      | (with_reducible exact rillmeterref10_Equal.mono _ _ _ _ _ _ _)
      | (with_reducible exact rillmeterref10_Short.mono _ _ _)
      | (with_reducible exact LeO.refl _)
      | (with_reducible exact LeO.none _)
      | (with_reducible refine LeO.ite ?_ ?_)
      | (with_reducible refine LeO.bind ?_ (fun _ => ?_))
      | exact ih0 _ _ _ _ _ _
      | exact ih1 _ _ _ _ _ _ _ _ _ _ _ _ _
      | exact ih2 _ _ _ _ _ _ _ _ _ _ _ _ _ _ _ _
      | exact bloom_Has.mono _ _ _ _ _
      | exact bloom_Merge.mono _ _ _ _ _ _ _
      | exact bloom_New.mono _ _ _ _
      | exact rillmeterlaw10_adds.mono _ _ _ _ _
      | exact rillmeterlaw10_awake.mono _
      | exact rillmeterref10_Equal.mono _ _ _ _ _ _ _
      | exact rillmeterref10_Short.mono _ _ _
      | exact LeO.none _
      | refine LeO.ite ?_ ?_
      | refine LeO.bind ?_ (fun _ => ?_)
    · intro y0 y1 y2 y3 y4 y5 y6 y7 y8 y9 y10 y11 y12 y13 y14 y15
      unfold rillmeterlaw10_BloomKeeps.l1
      repeat' first
      | (with_reducible exact ih0 _ _ _ _ _ _)
      | (with_reducible exact ih1 _ _ _ _ _ _ _ _ _ _ _ _ _)
      | (with_reducible exact ih2 _ _ _ _ _ _ _ _ _ _ _ _ _ _ _ _)
      | (with_reducible exact bloom_Has.mono _ _ _ _ _)
      | (with_reducible exact bloom_Merge.mono _ _ _ _ _ _ _)
      | (with_reducible exact bloom_New.mono _ _ _ _)
      | (with_reducible exact rillmeterlaw10_adds.mono _ _ _ _ _)
      | (with_reducible exact rillmeterlaw10_awake.mono _)
      | (with_reducible exact rillmeterref10_Equal.mono _ _ _ _ _ _ _)
      | (with_reducible exact rillmeterref10_Short.mono _ _ _)
      | (with_reducible exact LeO.refl _)
      | (with_reducible exact LeO.none _)
      | (with_reducible refine LeO.ite ?_ ?_)
      | (with_reducible refine LeO.bind ?_ (fun _ => ?_))
      | exact ih0 _ _ _ _ _ _
      | exact ih1 _ _ _ _ _ _ _ _ _ _ _ _ _
      | exact ih2 _ _ _ _ _ _ _ _ _ _ _ _ _ _ _ _
      | exact bloom_Has.mono _ _ _ _ _
      | exact bloom_Merge.mono _ _ _ _ _ _ _
      | exact bloom_New.mono _ _ _ _
      | exact rillmeterlaw10_adds.mono _ _ _ _ _
      | exact rillmeterlaw10_awake.mono _
      | exact rillmeterref10_Equal.mono _ _ _ _ _ _ _
      | exact rillmeterref10_Short.mono _ _ _
      | exact LeO.none _
      | refine LeO.ite ?_ ?_
      | refine LeO.bind ?_ (fun _ => ?_)
theorem rillmeterlaw10_BloomKeeps.mono : ∀ a0 a1 a2 a3 a4 k, LeO (rillmeterlaw10_BloomKeeps.f k a0 a1 a2 a3 a4) (rillmeterlaw10_BloomKeeps.f (k + 1) a0 a1 a2 a3 a4) := by
  intro a0 a1 a2 a3 a4 k
  obtain ⟨ih0, ih1, ih2⟩ := rillmeterlaw10_BloomKeeps.mono_l k
  unfold rillmeterlaw10_BloomKeeps.f
  repeat' first
      | (with_reducible exact ih0 _ _ _ _ _ _)
      | (with_reducible exact ih1 _ _ _ _ _ _ _ _ _ _ _ _ _)
      | (with_reducible exact ih2 _ _ _ _ _ _ _ _ _ _ _ _ _ _ _ _)
      | (with_reducible exact bloom_Has.mono _ _ _ _ _)
      | (with_reducible exact bloom_Merge.mono _ _ _ _ _ _ _)
      | (with_reducible exact bloom_New.mono _ _ _ _)
      | (with_reducible exact rillmeterlaw10_adds.mono _ _ _ _ _)
      | (with_reducible exact rillmeterlaw10_awake.mono _)
      | (with_reducible exact rillmeterref10_Equal.mono _ _ _ _ _ _ _)
      | (with_reducible exact rillmeterref10_Short.mono _ _ _)
      | (with_reducible exact LeO.refl _)
      | (with_reducible exact LeO.none _)
      | (with_reducible refine LeO.ite ?_ ?_)
      | (with_reducible refine LeO.bind ?_ (fun _ => ?_))
      | exact ih0 _ _ _ _ _ _
      | exact ih1 _ _ _ _ _ _ _ _ _ _ _ _ _
      | exact ih2 _ _ _ _ _ _ _ _ _ _ _ _ _ _ _ _
      | exact bloom_Has.mono _ _ _ _ _
      | exact bloom_Merge.mono _ _ _ _ _ _ _
      | exact bloom_New.mono _ _ _ _
      | exact rillmeterlaw10_adds.mono _ _ _ _ _
      | exact rillmeterlaw10_awake.mono _
      | exact rillmeterref10_Equal.mono _ _ _ _ _ _ _
      | exact rillmeterref10_Short.mono _ _ _
      | exact LeO.none _
      | refine LeO.ite ?_ ?_
      | refine LeO.bind ?_ (fun _ => ?_)
def rillmeterlaw10_BloomKeeps.T6 : Bool × List (List Nat × List Nat) := (true, [([], []), ([], []), ([0, 1], [0, 1]), ([], []), ([], []), ([3, 4, 2], [3, 4]), ([], []), ([], []), ([6, 2, 5, 0, 1, 2, 6, 7], [2, 6]), ([7, 5, 8, 0, 1, 2, 3, 4, 5, 6, 7, 8], [5, 7])])
def rillmeterlaw10_BloomKeeps.B6 : List Nat := [0, 0, 3, 0, 0, 31, 0, 0, 255, 511]
theorem rillmeterlaw10_BloomKeeps.tab6 : rtab .any (opsOf Try.f8 6) = rillmeterlaw10_BloomKeeps.T6 := by kernel_rfl
theorem rillmeterlaw10_BloomKeeps.bits6 : waitsOk rillmeterlaw10_BloomKeeps.T6.2 rillmeterlaw10_BloomKeeps.B6 = true := by kernel_rfl
def rillmeterlaw10_BloomKeeps.T7 : Bool × List (List Nat × List Nat) := (true, [([], []), ([], []), ([0, 1], [0, 1]), ([], []), ([], []), ([3, 4, 2], [3, 4]), ([], []), ([], []), ([6, 2, 5, 0, 1, 2, 6, 7], [2, 6]), ([7, 5, 8, 0, 1, 2, 3, 4, 5, 6, 7, 8], [5, 7])])
def rillmeterlaw10_BloomKeeps.B7 : List Nat := [0, 0, 3, 0, 0, 31, 0, 0, 255, 511]
theorem rillmeterlaw10_BloomKeeps.tab7 : rtab .any (opsOf Try.f8 7) = rillmeterlaw10_BloomKeeps.T7 := by kernel_rfl
theorem rillmeterlaw10_BloomKeeps.bits7 : waitsOk rillmeterlaw10_BloomKeeps.T7.2 rillmeterlaw10_BloomKeeps.B7 = true := by kernel_rfl
def rillmeterlaw10_BloomKeeps.T19 : Bool × List (List Nat × List Nat) := (true, [([], []), ([0], [0]), ([1], [1]), ([2], [2]), ([3, 2, 2], [2, 3]), ([2], [2]), ([5, 4, 2], [2, 5]), ([4, 6, 6, 2], [2, 4, 6]), ([2, 7], [2, 7]), ([8, 7], [8]), ([9], [9]), ([10, 9, 9], [9, 10]), ([9], [9]), ([12, 11, 9], [9, 12]), ([11, 13, 13, 9], [9, 11, 13]), ([9, 14], [9, 14]), ([15, 14], [15]), ([16, 16], [16]), ([16, 17], [16, 17]), ([18, 17, 0, 1, 2, 3, 4, 5, 6, 7, 8, 9, 10, 11, 12, 13, 14, 15, 16, 17, 18], [18])])
def rillmeterlaw10_BloomKeeps.B19 : List Nat := [0, 1, 3, 7, 15, 7, 63, 127, 255, 511, 1023, 2047, 1023, 8191, 16383, 32767, 65535, 131071, 262143, 524287]
theorem rillmeterlaw10_BloomKeeps.tab19 : rtab .any (opsOf Try.f8 19) = rillmeterlaw10_BloomKeeps.T19 := by kernel_rfl
theorem rillmeterlaw10_BloomKeeps.bits19 : waitsOk rillmeterlaw10_BloomKeeps.T19.2 rillmeterlaw10_BloomKeeps.B19 = true := by kernel_rfl

end Go.Proofs.Ytmlcafnnhpfpaaa.PBloomKeeps
