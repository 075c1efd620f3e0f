/- The functions that a law uses, each as a plain function, with the proof that a call of the Go function comes to its answer. Condition of each: the arguments read as the data that it names, and the plain function has an answer. Written by a program of this session (standin.py). -/
import Derived.Test.YtmlcafnnhpfpaaaPBloomMergesx0
import Derived.Test.YtmlcafnnhpfpaaaPBloomMergesx1
import Derived.Test.YtmlcafnnhpfpaaaPBloomMergesx3
import Derived.Test.YtmlcafnnhpfpaaaPBloomMergesx4
import Derived.Test.YtmlcafnnhpfpaaaShort
import Derived.Lib.SliceRun
namespace Go.Proofs.Ytmlcafnnhpfpaaa.PBloomMerges
open Go.RowKit Go.Proofs.YtmlcafnnhpfpaaaW.PrintWords Go.Proofs.YtmlcafnnhpfpaaaW.PrintLast Go.Proofs.YtmlcafnnhpfpaaaW.PrintMore Go.Proofs.Ytmlcafnnhpfpaaa.Short
attribute [local go_sem] max2_int min2_int max_two min_two max_three min_three max_four min_four   -- for this text's walks alone
set_option linter.unusedVariables false
set_option linter.unusedSimpArgs false

/-! ### rillmeterlaw10_BloomMerges: function 7 -/
mutual
def rillmeterlaw10_BloomMerges.j0 : Nat → Bool → Int → Int → List Bool → Int → Int → List Bool → Option (Bool)
  | 0, _, _, _, _, _, _, _ => none
  | k + 1, x17, x198000, x198001, x198002, x199000, x199001, x199002 => if x17 = true then ((rillmeterlaw10_awake.f k).bind fun t199 => (some t199)) else ((bloom_Merge.f k x198000 x198001 x198002 x199000 x199001 x199002).bind fun bt200 => ((rillmeterlaw10_ref.f x198000 x198001 x198002).bind fun bt207 => ((rillmeterref10_Right.f bt207.1 bt207.2.1 bt207.2.2).bind fun t212 => (if t212 = true then ((rillmeterlaw10_ref.f x199000 x199001 x199002).bind fun bt213 => ((rillmeterref10_Right.f bt213.1 bt213.2.1 bt213.2.2).bind fun t218 => (if t218 = true then (if x198000 = x199000 then (if x198001 = x199001 then (rillmeterlaw10_BloomMerges.j1 k bt200.2.2.2 ((x198002.length : Int) != (x199002.length : Int)) x198000 x198001 x198002 x199000 x199001 x199002 bt200.1 bt200.2.1 bt200.2.2.1) else (rillmeterlaw10_BloomMerges.j1 k bt200.2.2.2 true x198000 x198001 x198002 x199000 x199001 x199002 bt200.1 bt200.2.1 bt200.2.2.1)) else (rillmeterlaw10_BloomMerges.j1 k bt200.2.2.2 true x198000 x198001 x198002 x199000 x199001 x199002 bt200.1 bt200.2.1 bt200.2.2.1)) else (rillmeterlaw10_BloomMerges.j1 k bt200.2.2.2 true x198000 x198001 x198002 x199000 x199001 x199002 bt200.1 bt200.2.1 bt200.2.2.1)))) else (rillmeterlaw10_BloomMerges.j1 k bt200.2.2.2 true x198000 x198001 x198002 x199000 x199001 x199002 bt200.1 bt200.2.1 bt200.2.2.1)))))
def rillmeterlaw10_BloomMerges.j1 : Nat → Int → Bool → Int → Int → List Bool → Int → Int → List Bool → Int → Int → List Bool → Option (Bool)
  | 0, _, _, _, _, _, _, _, _, _, _, _ => none
  | k + 1, x6, x57, x198000, x198001, x198002, x199000, x199001, x199002, x207000, x207001, x207002 => if x57 = true then ((rillmeterlaw10_ref.f x207000 x207001 x207002).bind fun bt219 => ((rillmeterref10_Equal.f k bt219.1 bt219.2.1 bt219.2.2 0 0 ([] : List Bool)).bind fun t224 => (if t224 = true then (if x6 = 1 then ((rillmeterlaw10_awake.f k).bind fun t225 => (some t225)) else (some false)) else (some false)))) else (if (x207002.length : Int) = (x198002.length : Int) then (if x207000 = x198000 then (rillmeterlaw10_BloomMerges.j2 k x6 (x207001 != x198001) x198000 x198001 x198002 x199000 x199001 x199002 x207000 x207001 x207002) else (rillmeterlaw10_BloomMerges.j2 k x6 true x198000 x198001 x198002 x199000 x199001 x199002 x207000 x207001 x207002)) else (rillmeterlaw10_BloomMerges.j2 k x6 true x198000 x198001 x198002 x199000 x199001 x199002 x207000 x207001 x207002))
def rillmeterlaw10_BloomMerges.j2 : Nat → Int → Bool → Int → Int → List Bool → Int → Int → List Bool → Int → Int → List Bool → Option (Bool)
  | 0, _, _, _, _, _, _, _, _, _, _, _ => none
  | k + 1, x6, x89, x198000, x198001, x198002, x199000, x199001, x199002, x207000, x207001, x207002 => if x89 = true then (some false) else (rillmeterlaw10_BloomMerges.l0 k x6 (x207002.length : Int) 0 x198000 x198001 x198002 x199000 x199001 x199002 x207000 x207001 x207002)
def rillmeterlaw10_BloomMerges.l0 : Nat → Int → Int → Int → Int → Int → List Bool → Int → Int → List Bool → Int → Int → List Bool → Option (Bool)
  | 0, _, _, _, _, _, _, _, _, _, _, _, _ => none
  | k + 1, x6, x92, x93, x198000, x198001, x198002, x199000, x199001, x199002, x207000, x207001, x207002 => if x93 < x92 then (if 0 ≤ x93 then (if x93 < (x207002.length : Int) then (if x93 < (x198002.length : Int) then (if rdOf false x198002 x93 = true then (if ((rdOf false x207002 x93) != true) = true then (some false) else (rillmeterlaw10_BloomMerges.l0 k x6 x92 (wrap64 (x93 + 1)) x198000 x198001 x198002 x199000 x199001 x199002 x207000 x207001 x207002)) else (if x93 < (x199002.length : Int) then (if ((rdOf false x207002 x93) != (rdOf false x199002 x93)) = true then (some false) else (rillmeterlaw10_BloomMerges.l0 k x6 x92 (wrap64 (x93 + 1)) x198000 x198001 x198002 x199000 x199001 x199002 x207000 x207001 x207002)) else (none))) else (none)) else (none)) else (none)) else (if x6 = 0 then ((rillmeterlaw10_awake.f k).bind fun t229 => (some t229)) else (some false))
end
def rillmeterlaw10_BloomMerges.f (k : Nat) (a0_0 : Int) (a0_1 : Int) (l0_2 : List Bool) (a1_0 : Int) (a1_1 : Int) (l1_2 : List Bool) : Option (Bool) := if (l0_2.length : Int) > 300 then (rillmeterlaw10_BloomMerges.j0 k true a0_0 a0_1 l0_2 a1_0 a1_1 l1_2) else (rillmeterlaw10_BloomMerges.j0 k (decide ((l1_2.length : Int) > 300)) a0_0 a0_1 l0_2 a1_0 a1_1 l1_2)
theorem rillmeterlaw10_BloomMerges.mono_l : ∀ k, (∀ y0 y1 y2 y3 y4 y5 y6, LeO (rillmeterlaw10_BloomMerges.j0 k y0 y1 y2 y3 y4 y5 y6) (rillmeterlaw10_BloomMerges.j0 (k + 1) y0 y1 y2 y3 y4 y5 y6)) ∧ (∀ y0 y1 y2 y3 y4 y5 y6 y7 y8 y9 y10, LeO (rillmeterlaw10_BloomMerges.j1 k y0 y1 y2 y3 y4 y5 y6 y7 y8 y9 y10) (rillmeterlaw10_BloomMerges.j1 (k + 1) y0 y1 y2 y3 y4 y5 y6 y7 y8 y9 y10)) ∧ (∀ y0 y1 y2 y3 y4 y5 y6 y7 y8 y9 y10, LeO (rillmeterlaw10_BloomMerges.j2 k y0 y1 y2 y3 y4 y5 y6 y7 y8 y9 y10) (rillmeterlaw10_BloomMerges.j2 (k + 1) y0 y1 y2 y3 y4 y5 y6 y7 y8 y9 y10)) ∧ (∀ y0 y1 y2 y3 y4 y5 y6 y7 y8 y9 y10 y11, LeO (rillmeterlaw10_BloomMerges.l0 k y0 y1 y2 y3 y4 y5 y6 y7 y8 y9 y10 y11) (rillmeterlaw10_BloomMerges.l0 (k + 1) y0 y1 y2 y3 y4 y5 y6 y7 y8 y9 y10 y11))
  | 0 => ⟨fun _ _ _ _ _ _ _ r h => by simp [rillmeterlaw10_BloomMerges.j0] at h, fun _ _ _ _ _ _ _ _ _ _ _ r h => by simp [rillmeterlaw10_BloomMerges.j1] at h, fun _ _ _ _ _ _ _ _ _ _ _ r h => by simp [rillmeterlaw10_BloomMerges.j2] at h, fun _ _ _ _ _ _ _ _ _ _ _ _ r h => by simp [rillmeterlaw10_BloomMerges.l0] at h⟩
  | k + 1 => by
    obtain ⟨ih0, ih1, ih2, ih3⟩ := rillmeterlaw10_BloomMerges.mono_l k
    refine ⟨?_, ?_, ?_, ?_⟩
    · intro y0 y1 y2 y3 y4 y5 y6
      unfold rillmeterlaw10_BloomMerges.j0
      repeat' first
      | (with_reducible exact ih0 _ _ _ _ _ _ _)
      | (with_reducible exact ih1 _ _ _ _ _ _ _ _ _ _ _)
      | (with_reducible exact ih2 _ _ _ _ _ _ _ _ _ _ _)
      | (with_reducible exact ih3 _ _ _ _ _ _ _ _ _ _ _ _)
      | (with_reducible exact bloom_Merge.mono _ _ _ _ _ _ _)
      | (with_reducible exact rillmeterlaw10_awake.mono _)
      | (with_reducible exact rillmeterref10_Equal.mono _ _ _ _ _ _ _)
      | (with_reducible exact LeO.refl _)
      | (with_reducible exact LeO.none _)
      | (with_reducible refine LeO.ite ?_ ?_)
      | (with_reducible refine LeO.bind ?_ (fun _ => ?_))
      | exact ih0 _ _ _ _ _ _ _
      | exact ih1 _ _ _ _ _ _ _ _ _ _ _
      | exact ih2 _ _ _ _ _ _ _ _ _ _ _
      | exact ih3 _ _ _ _ _ _ _ _ _ _ _ _
      | exact bloom_Merge.mono _ _ _ _ _ _ _
      | exact rillmeterlaw10_awake.mono _
      | exact rillmeterref10_Equal.mono _ _ _ _ _ _ _
      | exact LeO.none _
      | refine LeO.ite ?_ ?_
      | refine LeO.bind ?_ (fun _ => ?_)
    · intro y0 y1 y2 y3 y4 y5 y6 y7 y8 y9 y10
      unfold rillmeterlaw10_BloomMerges.j1
      repeat' first
      | (with_reducible exact ih0 _ _ _ _ _ _ _)
      | (with_reducible exact ih1 _ _ _ _ _ _ _ _ _ _ _)
      | (with_reducible exact ih2 _ _ _ _ _ _ _ _ _ _ _)
      | (with_reducible exact ih3 _ _ _ _ _ _ _ _ _ _ _ _)
      | (with_reducible exact bloom_Merge.mono _ _ _ _ _ _ _)
      | (with_reducible exact rillmeterlaw10_awake.mono _)
      | (with_reducible exact rillmeterref10_Equal.mono _ _ _ _ _ _ _)
      | (with_reducible exact LeO.refl _)
      | (with_reducible exact LeO.none _)
      | (with_reducible refine LeO.ite ?_ ?_)
      | (with_reducible refine LeO.bind ?_ (fun _ => ?_))
      | exact ih0 _ _ _ _ _ _ _
      | exact ih1 _ _ _ _ _ _ _ _ _ _ _
      | exact ih2 _ _ _ _ _ _ _ _ _ _ _
      | exact ih3 _ _ _ _ _ _ _ _ _ _ _ _
      | exact bloom_Merge.mono _ _ _ _ _ _ _
      | exact rillmeterlaw10_awake.mono _
      | exact rillmeterref10_Equal.mono _ _ _ _ _ _ _
      | exact LeO.none _
      | refine LeO.ite ?_ ?_
      | refine LeO.bind ?_ (fun _ => ?_)
    · intro y0 y1 y2 y3 y4 y5 y6 y7 y8 y9 y10
      unfold rillmeterlaw10_BloomMerges.j2
      repeat' first
      | (with_reducible exact ih0 _ _ _ _ _ _ _)
      | (with_reducible exact ih1 _ _ _ _ _ _ _ _ _ _ _)
      | (with_reducible exact ih2 _ _ _ _ _ _ _ _ _ _ _)
      | (with_reducible exact ih3 _ _ _ _ _ _ _ _ _ _ _ _)
      | (with_reducible exact bloom_Merge.mono _ _ _ _ _ _ _)
      | (with_reducible exact rillmeterlaw10_awake.mono _)
      | (with_reducible exact rillmeterref10_Equal.mono _ _ _ _ _ _ _)
      | (with_reducible exact LeO.refl _)
      | (with_reducible exact LeO.none _)
      | (with_reducible refine LeO.ite ?_ ?_)
      | (with_reducible refine LeO.bind ?_ (fun _ => ?_))
      | exact ih0 _ _ _ _ _ _ _
      | exact ih1 _ _ _ _ _ _ _ _ _ _ _
      | exact ih2 _ _ _ _ _ _ _ _ _ _ _
      | exact ih3 _ _ _ _ _ _ _ _ _ _ _ _
      | exact bloom_Merge.mono _ _ _ _ _ _ _
      | exact rillmeterlaw10_awake.mono _
      | exact rillmeterref10_Equal.mono _ _ _ _ _ _ _
      | exact LeO.none _
      | refine LeO.ite ?_ ?_
      | refine LeO.bind ?_ (fun _ => ?_)
    · intro y0 y1 y2 y3 y4 y5 y6 y7 y8 y9 y10 y11
      unfold rillmeterlaw10_BloomMerges.l0
      repeat' first
      | (with_reducible exact ih0 _ _ _ _ _ _ _)
      | (with_reducible exact ih1 _ _ _ _ _ _ _ _ _ _ _)
      | (with_reducible exact ih2 _ _ _ _ _ _ _ _ _ _ _)
      | (with_reducible exact ih3 _ _ _ _ _ _ _ _ _ _ _ _)
      | (with_reducible exact bloom_Merge.mono _ _ _ _ _ _ _)
      | (with_reducible exact rillmeterlaw10_awake.mono _)
      | (with_reducible exact rillmeterref10_Equal.mono _ _ _ _ _ _ _)
      | (with_reducible exact LeO.refl _)
      | (with_reducible exact LeO.none _)
      | (with_reducible refine LeO.ite ?_ ?_)
      | (with_reducible refine LeO.bind ?_ (fun _ => ?_))
      | exact ih0 _ _ _ _ _ _ _
      | exact ih1 _ _ _ _ _ _ _ _ _ _ _
      | exact ih2 _ _ _ _ _ _ _ _ _ _ _
      | exact ih3 _ _ _ _ _ _ _ _ _ _ _ _
      | exact bloom_Merge.mono _ _ _ _ _ _ _
      | exact rillmeterlaw10_awake.mono _
      | exact rillmeterref10_Equal.mono _ _ _ _ _ _ _
      | exact LeO.none _
      | refine LeO.ite ?_ ?_
      | refine LeO.bind ?_ (fun _ => ?_)
theorem rillmeterlaw10_BloomMerges.mono : ∀ a0 a1 a2 a3 a4 a5 k, LeO (rillmeterlaw10_BloomMerges.f k a0 a1 a2 a3 a4 a5) (rillmeterlaw10_BloomMerges.f (k + 1) a0 a1 a2 a3 a4 a5) := by
  intro a0 a1 a2 a3 a4 a5 k
  obtain ⟨ih0, ih1, ih2, ih3⟩ := rillmeterlaw10_BloomMerges.mono_l k
  unfold rillmeterlaw10_BloomMerges.f
  repeat' first
      | (with_reducible exact ih0 _ _ _ _ _ _ _)
      | (with_reducible exact ih1 _ _ _ _ _ _ _ _ _ _ _)
      | (with_reducible exact ih2 _ _ _ _ _ _ _ _ _ _ _)
      | (with_reducible exact ih3 _ _ _ _ _ _ _ _ _ _ _ _)
      | (with_reducible exact bloom_Merge.mono _ _ _ _ _ _ _)
      | (with_reducible exact rillmeterlaw10_awake.mono _)
      | (with_reducible exact rillmeterref10_Equal.mono _ _ _ _ _ _ _)
      | (with_reducible exact LeO.refl _)
      | (with_reducible exact LeO.none _)
      | (with_reducible refine LeO.ite ?_ ?_)
      | (with_reducible refine LeO.bind ?_ (fun _ => ?_))
      | exact ih0 _ _ _ _ _ _ _
      | exact ih1 _ _ _ _ _ _ _ _ _ _ _
      | exact ih2 _ _ _ _ _ _ _ _ _ _ _
      | exact ih3 _ _ _ _ _ _ _ _ _ _ _ _
      | exact bloom_Merge.mono _ _ _ _ _ _ _
      | exact rillmeterlaw10_awake.mono _
      | exact rillmeterref10_Equal.mono _ _ _ _ _ _ _
      | exact LeO.none _
      | refine LeO.ite ?_ ?_
      | refine LeO.bind ?_ (fun _ => ?_)
set_option maxHeartbeats 8000000 in
set_option maxRecDepth 100000 in
theorem rillmeterlaw10_BloomMerges.calls (k : Nat) (a0_0 : Int) (a0_1 : Int) (A0_2 : Option Addr) (c0_2 : Nat) (l0_2 : List Bool) (a1_0 : Int) (a1_1 : Int) (A1_2 : Option Addr) (c1_2 : Nat) (l1_2 : List Bool) (r : Bool) (w : World) (hr0_2 : Kd.C Kd.bool w A0_2 l0_2.length l0_2) (hc0_2 : l0_2.length ≤ c0_2) (hr1_2 : Kd.C Kd.bool w A1_2 l1_2.length l1_2) (hc1_2 : l1_2.length ≤ c1_2) (h : rillmeterlaw10_BloomMerges.f k a0_0 a0_1 l0_2 a1_0 a1_1 l1_2 = some r) (hrt : Aside0 (r = true)) :
    Calls Try.prog 7 #[.agg #[.int .u64 a0_0, .int .i64 a0_1, .slice A0_2 l0_2.length c0_2], .agg #[.int .u64 a1_0, .int .i64 a1_1, .slice A1_2 l1_2.length c1_2]] w fun e w' => e = .returned (.bool r) ∧ Below w.heap.size w w' := by
  have hu25 := Try.underlying25
  have hu30 := Try.underlying30
  have HR0_2 := Aside0.mk hr0_2
  have HC0_2 := Aside0.mk hc0_2
  clear hr0_2 hc0_2
  have HR1_2 := Aside0.mk hr1_2
  have HC1_2 := Aside0.mk hc1_2
  clear hr1_2 hc1_2
  have HB := Aside0.mk (Below.refl w.heap.size w)
  have H : (if (l0_2.length : Int) > 300 then (rillmeterlaw10_BloomMerges.j0 k true a0_0 a0_1 l0_2 a1_0 a1_1 l1_2) else (rillmeterlaw10_BloomMerges.j0 k (decide ((l1_2.length : Int) > 300)) a0_0 a0_1 l0_2 a1_0 a1_1 l1_2)) = some r := h
  clear h
  have HC3 := Aside0.mk H
  clear H
  go_enter Try.func7, Try.ntmps7
  go_upto_region 1 with (first | ((with_reducible refine gate_dst (N := 2) rfl ?_); (try (refine gate_guard (by rfl) ?_; dsimp only)); refine box_event ?hg (N := 2) ?hd (cs := #[.int .u64 a0_0, .int .i64 a0_1, .slice A0_2 l0_2.length c0_2]) (t := 25) ?hr ?_; (case hd => rfl); (case hg => rfl); (case hr => first | (go_simp; done) | (go_simp; rfl)); intro gb197 hg w4 hbox hb; have n0_ := Aside0.mk (below_step (bl_ HB) hb); have n1_ := Aside0.mk (hbox); have n2_ := Aside0.mk ((by rw [hg]; exact (below_size (bl_ HB)) : w.heap.size ≤ gb197)); have n3_ := Aside0.mk ((by rw [hg]; exact (below_size (bl_ HB)) : w.heap.size ≤ gb197)); clear HB; have HB := n0_; have BK197 := n1_; have GW197 := n2_; have GE197 := n3_; clear n0_ n1_ n2_ n3_; clear hb hbox hg) | ((with_reducible refine gate_dst (N := 3) rfl ?_); (try (refine gate_guard (by rfl) ?_; dsimp only)); refine box_event ?hg (N := 3) ?hd (cs := #[.int .u64 a1_0, .int .i64 a1_1, .slice A1_2 l1_2.length c1_2]) (t := 25) ?hr ?_; (case hd => rfl); (case hg => rfl); (case hr => first | (go_simp; done) | (go_simp; rfl)); intro gb198 hg w5 hbox hb; have n0_ := Aside0.mk (blk_below (bk_ BK197) hb); have n1_ := Aside0.mk (below_step (bl_ HB) hb); have n2_ := Aside0.mk (hbox); have n3_ := Aside0.mk ((by rw [hg]; exact (below_size (bl_ HB)) : w.heap.size ≤ gb198)); have n4_ := Aside0.mk ((by rw [hg]; exact (below_size (bl_ HB)) : w.heap.size ≤ gb198)); have n5_ := Aside0.mk ((by rw [hg]; exact Nat.ne_of_lt (blk_lt (g := gb197) (o := .cells #[.int .u64 a0_0, .int .i64 a0_1, .slice A0_2 l0_2.length c0_2] 25 (0, 0)) (bk_ BK197)) : gb197 ≠ gb198)); have n6_ := Aside0.mk ((by rw [hg]; exact Nat.ne_of_gt (blk_lt (g := gb197) (o := .cells #[.int .u64 a0_0, .int .i64 a0_1, .slice A0_2 l0_2.length c0_2] 25 (0, 0)) (bk_ BK197)) : gb198 ≠ gb197)); clear BK197; clear HB; have BK197 := n0_; have HB := n1_; have BK198 := n2_; have GW198 := n3_; have GE198 := n4_; have NB197_198 := n5_; have NB198_197 := n6_; clear n0_ n1_ n2_ n3_ n4_ n5_ n6_; clear hb hbox hg))
  repeat (go_quiet (first | ((with_reducible refine gate_dst (N := 2) rfl ?_); (try (refine gate_guard (by rfl) ?_; dsimp only)); refine box_event ?hg (N := 2) ?hd (cs := #[.int .u64 a0_0, .int .i64 a0_1, .slice A0_2 l0_2.length c0_2]) (t := 25) ?hr ?_; (case hd => rfl); (case hg => rfl); (case hr => first | (go_simp; done) | (go_simp; rfl)); intro gb197 hg w4 hbox hb; have n0_ := Aside0.mk (below_step (bl_ HB) hb); have n1_ := Aside0.mk (hbox); have n2_ := Aside0.mk ((by rw [hg]; exact (below_size (bl_ HB)) : w.heap.size ≤ gb197)); have n3_ := Aside0.mk ((by rw [hg]; exact (below_size (bl_ HB)) : w.heap.size ≤ gb197)); clear HB; have HB := n0_; have BK197 := n1_; have GW197 := n2_; have GE197 := n3_; clear n0_ n1_ n2_ n3_; clear hb hbox hg) | ((with_reducible refine gate_dst (N := 3) rfl ?_); (try (refine gate_guard (by rfl) ?_; dsimp only)); refine box_event ?hg (N := 3) ?hd (cs := #[.int .u64 a1_0, .int .i64 a1_1, .slice A1_2 l1_2.length c1_2]) (t := 25) ?hr ?_; (case hd => rfl); (case hg => rfl); (case hr => first | (go_simp; done) | (go_simp; rfl)); intro gb198 hg w5 hbox hb; have n0_ := Aside0.mk (blk_below (bk_ BK197) hb); have n1_ := Aside0.mk (below_step (bl_ HB) hb); have n2_ := Aside0.mk (hbox); have n3_ := Aside0.mk ((by rw [hg]; exact (below_size (bl_ HB)) : w.heap.size ≤ gb198)); have n4_ := Aside0.mk ((by rw [hg]; exact (below_size (bl_ HB)) : w.heap.size ≤ gb198)); have n5_ := Aside0.mk ((by rw [hg]; exact Nat.ne_of_lt (blk_lt (g := gb197) (o := .cells #[.int .u64 a0_0, .int .i64 a0_1, .slice A0_2 l0_2.length c0_2] 25 (0, 0)) (bk_ BK197)) : gb197 ≠ gb198)); have n6_ := Aside0.mk ((by rw [hg]; exact Nat.ne_of_gt (blk_lt (g := gb197) (o := .cells #[.int .u64 a0_0, .int .i64 a0_1, .slice A0_2 l0_2.length c0_2] 25 (0, 0)) (bk_ BK197)) : gb198 ≠ gb197)); clear BK197; clear HB; have BK197 := n0_; have HB := n1_; have BK198 := n2_; have GW198 := n3_; have GE198 := n4_; have NB197_198 := n5_; have NB198_197 := n6_; clear n0_ n1_ n2_ n3_ n4_ n5_ n6_; clear hb hbox hg)); go_upto_region 1 with (first | ((with_reducible refine gate_dst (N := 2) rfl ?_); (try (refine gate_guard (by rfl) ?_; dsimp only)); refine box_event ?hg (N := 2) ?hd (cs := #[.int .u64 a0_0, .int .i64 a0_1, .slice A0_2 l0_2.length c0_2]) (t := 25) ?hr ?_; (case hd => rfl); (case hg => rfl); (case hr => first | (go_simp; done) | (go_simp; rfl)); intro gb197 hg w4 hbox hb; have n0_ := Aside0.mk (below_step (bl_ HB) hb); have n1_ := Aside0.mk (hbox); have n2_ := Aside0.mk ((by rw [hg]; exact (below_size (bl_ HB)) : w.heap.size ≤ gb197)); have n3_ := Aside0.mk ((by rw [hg]; exact (below_size (bl_ HB)) : w.heap.size ≤ gb197)); clear HB; have HB := n0_; have BK197 := n1_; have GW197 := n2_; have GE197 := n3_; clear n0_ n1_ n2_ n3_; clear hb hbox hg) | ((with_reducible refine gate_dst (N := 3) rfl ?_); (try (refine gate_guard (by rfl) ?_; dsimp only)); refine box_event ?hg (N := 3) ?hd (cs := #[.int .u64 a1_0, .int .i64 a1_1, .slice A1_2 l1_2.length c1_2]) (t := 25) ?hr ?_; (case hd => rfl); (case hg => rfl); (case hr => first | (go_simp; done) | (go_simp; rfl)); intro gb198 hg w5 hbox hb; have n0_ := Aside0.mk (blk_below (bk_ BK197) hb); have n1_ := Aside0.mk (below_step (bl_ HB) hb); have n2_ := Aside0.mk (hbox); have n3_ := Aside0.mk ((by rw [hg]; exact (below_size (bl_ HB)) : w.heap.size ≤ gb198)); have n4_ := Aside0.mk ((by rw [hg]; exact (below_size (bl_ HB)) : w.heap.size ≤ gb198)); have n5_ := Aside0.mk ((by rw [hg]; exact Nat.ne_of_lt (blk_lt (g := gb197) (o := .cells #[.int .u64 a0_0, .int .i64 a0_1, .slice A0_2 l0_2.length c0_2] 25 (0, 0)) (bk_ BK197)) : gb197 ≠ gb198)); have n6_ := Aside0.mk ((by rw [hg]; exact Nat.ne_of_gt (blk_lt (g := gb197) (o := .cells #[.int .u64 a0_0, .int .i64 a0_1, .slice A0_2 l0_2.length c0_2] 25 (0, 0)) (bk_ BK197)) : gb198 ≠ gb197)); clear BK197; clear HB; have BK197 := n0_; have HB := n1_; have BK198 := n2_; have GW198 := n3_; have GE198 := n4_; have NB197_198 := n5_; have NB198_197 := n6_; clear n0_ n1_ n2_ n3_ n4_ n5_ n6_; clear hb hbox hg)))
  (try simp only [Act.put, List.setIfInBounds_toArray, List.set_cons_zero, List.set_cons_succ])
  go_cut [17] (fun v17 wc => ∃ (kq : Nat) (x17_2 : Bool), v17 = .bool x17_2 ∧ Aside0 (rillmeterlaw10_BloomMerges.j0 kq x17_2 a0_0 a0_1 l0_2 a1_0 a1_1 l1_2 = some r) ∧ Aside0 (kq ≤ k) ∧ Aside0 (wc.heap[gb197]? = some (.cells #[.int .u64 a0_0, .int .i64 a0_1, (.slice A0_2 l0_2.length c0_2)] 25 (0, 0))) ∧ Aside0 (wc.heap[gb198]? = some (.cells #[.int .u64 a1_0, .int .i64 a1_1, (.slice A1_2 l1_2.length c1_2)] 25 (0, 0))) ∧ Aside0 (Below w.heap.size w wc))
  case first =>
    have H := HC3.out
    clear HC3
    by_cases c6 : (l0_2.length : Int) > 300
    · rw [if_pos c6] at H
      have c6b0 : decide (300 < (l0_2.length : Int)) = true := decide_eq_true c6
      have c6b1 : decide (300 < l0_2.length) = true := decide_eq_true (by omega)
      clear c6
      (first | rw [c6b0] | (simp only [i64_w, i32_w]; rw [c6b0]) | skip)
      have H' := Aside0.mk H
      clear H
      have hnb7 := NB197_198.out
      have hnc7 := NB198_197.out
      have hcz8_0 : w5.cell? ⟨gb197, 0, none⟩ = some (.int .u64 a0_0) := (blk_cell BK197.out 0).trans rfl
      have hcz8_1 : w5.cell? ⟨gb197, 1, none⟩ = some (.int .i64 a0_1) := (blk_cell BK197.out 1).trans rfl
      have hcz8_2 : w5.cell? ⟨gb197, 2, none⟩ = some (.slice A0_2 l0_2.length c0_2) := (blk_cell BK197.out 2).trans rfl
      have hfz8_0 := blk_frozen BK197.out 0
      have hfz8_1 := blk_frozen BK197.out 1
      have hfz8_2 := blk_frozen BK197.out 2
      go_wp2
      repeat (go_quiet (fail); try go_wp2)
      go_meet
      case rel => exact ⟨_, (true), (by first | rfl | (simp; done) | (simp [*]; done)), H', ⟨by first | omega | exact Nat.le_refl _⟩, ⟨bk_ BK197⟩, ⟨bk_ BK198⟩, ⟨bl_ HB⟩⟩
    · rw [if_neg c6] at H
      have c6b0 : decide (300 < (l0_2.length : Int)) = false := decide_eq_false c6
      have c6b1 : decide (300 < l0_2.length) = false := decide_eq_false (by omega)
      clear c6
      (first | rw [c6b0] | (simp only [i64_w, i32_w]; rw [c6b0]) | skip)
      have H' := Aside0.mk H
      clear H
      have hnb9 := NB197_198.out
      have hnc9 := NB198_197.out
      have hcz10_0 : w5.cell? ⟨gb197, 0, none⟩ = some (.int .u64 a0_0) := (blk_cell BK197.out 0).trans rfl
      have hcz10_1 : w5.cell? ⟨gb197, 1, none⟩ = some (.int .i64 a0_1) := (blk_cell BK197.out 1).trans rfl
      have hcz10_2 : w5.cell? ⟨gb197, 2, none⟩ = some (.slice A0_2 l0_2.length c0_2) := (blk_cell BK197.out 2).trans rfl
      have hfz10_0 := blk_frozen BK197.out 0
      have hfz10_1 := blk_frozen BK197.out 1
      have hfz10_2 := blk_frozen BK197.out 2
      have hcz11_0 : w5.cell? ⟨gb198, 0, none⟩ = some (.int .u64 a1_0) := (blk_cell BK198.out 0).trans rfl
      have hcz11_1 : w5.cell? ⟨gb198, 1, none⟩ = some (.int .i64 a1_1) := (blk_cell BK198.out 1).trans rfl
      have hcz11_2 : w5.cell? ⟨gb198, 2, none⟩ = some (.slice A1_2 l1_2.length c1_2) := (blk_cell BK198.out 2).trans rfl
      have hfz11_0 := blk_frozen BK198.out 0
      have hfz11_1 := blk_frozen BK198.out 1
      have hfz11_2 := blk_frozen BK198.out 2
      go_wp2
      repeat (go_quiet (fail); try go_wp2)
      go_meet
      case rel => exact ⟨_, (decide ((l1_2.length : Int) > 300)), (by first | rfl | (simp; done) | (simp [*]; done)), H', ⟨by first | omega | exact Nat.le_refl _⟩, ⟨bk_ BK197⟩, ⟨bk_ BK198⟩, ⟨bl_ HB⟩⟩
  case rest =>
    clear HC3
    try clear c1
    try clear p2
    try clear c6
    try clear c6b0
    try clear c6b1
    try clear c7
    try clear c9
    try clear hcz10_0
    try clear hcz10_1
    try clear hcz10_2
    try clear hcz11_0
    try clear hcz11_1
    try clear hcz11_2
    try clear hcz8_0
    try clear hcz8_1
    try clear hcz8_2
    try clear hfz10_0
    try clear hfz10_1
    try clear hfz10_2
    try clear hfz11_0
    try clear hfz11_1
    try clear hfz11_2
    try clear hfz8_0
    try clear hfz8_1
    try clear hfz8_2
    obtain ⟨kq, x17_2, rfl, HA, HJ2, BK197, BK198, HB⟩ := hcut
    cases kq with
    | zero => exact absurd HA.out (by simp [rillmeterlaw10_BloomMerges.j0])
    | succ kj2 =>
      have H := HA.out
      clear HA
      simp only [rillmeterlaw10_BloomMerges.j0] at H
      by_cases c12 : x17_2 = true
      · subst c12
        have H1 : ((rillmeterlaw10_awake.f kj2).bind fun t199 => (some t199)) = some r := by rw [if_pos rfl] at H; exact H
        clear H
        have H := H1
        clear H1
        replace H := Option.bind_eq_some_iff.mp H
        obtain ⟨t199, A130, H⟩ := H
        replace H : (some t199) = some r := H
        have A13 := Aside0.mk A130
        clear A130
        obtain rfl := Option.some.inj H
        go_wp2_with (first | (go_at_call 12; (with_reducible refine (rillmeterlaw10_awake.calls kj2  t199 _ A13.out).mono ?_); rintro e w14 ⟨rfl, hb⟩; have n0_ := Aside0.mk (blk_below (bk_ BK197) hb); have n1_ := Aside0.mk (blk_below (bk_ BK198) hb); have n2_ := Aside0.mk (below_step (bl_ HB) hb); clear BK197; clear BK198; clear HB; have BK197 := n0_; have BK198 := n1_; have HB := n2_; clear n0_ n1_ n2_; (try clear hb); (try clear hb2); (try clear hk); (try clear hi)))
        repeat (go_quiet (first | (go_at_call 12; (with_reducible refine (rillmeterlaw10_awake.calls kj2  t199 _ A13.out).mono ?_); rintro e w14 ⟨rfl, hb⟩; have n0_ := Aside0.mk (blk_below (bk_ BK197) hb); have n1_ := Aside0.mk (blk_below (bk_ BK198) hb); have n2_ := Aside0.mk (below_step (bl_ HB) hb); clear BK197; clear BK198; clear HB; have BK197 := n0_; have BK198 := n1_; have HB := n2_; clear n0_ n1_ n2_; (try clear hb); (try clear hb2); (try clear hk); (try clear hi))); try go_wp2_with (first | (go_at_call 12; (with_reducible refine (rillmeterlaw10_awake.calls kj2  t199 _ A13.out).mono ?_); rintro e w14 ⟨rfl, hb⟩; have n0_ := Aside0.mk (blk_below (bk_ BK197) hb); have n1_ := Aside0.mk (blk_below (bk_ BK198) hb); have n2_ := Aside0.mk (below_step (bl_ HB) hb); clear BK197; clear BK198; clear HB; have BK197 := n0_; have BK198 := n1_; have HB := n2_; clear n0_ n1_ n2_; (try clear hb); (try clear hb2); (try clear hk); (try clear hi))))
        go_ret
        exact ⟨by first | rfl | (simp [errW_none, errW_some] <;> rfl) | (simp [*, errW_none, errW_some] <;> rfl), bl_ HB⟩
      · replace c12 := Bool.eq_false_iff.mpr c12
        subst c12
        have H1 : ((bloom_Merge.f kj2 a0_0 a0_1 l0_2 a1_0 a1_1 l1_2).bind fun bt200 => ((rillmeterlaw10_ref.f a0_0 a0_1 l0_2).bind fun bt207 => ((rillmeterref10_Right.f bt207.1 bt207.2.1 bt207.2.2).bind fun t212 => (if t212 = true then ((rillmeterlaw10_ref.f a1_0 a1_1 l1_2).bind fun bt213 => ((rillmeterref10_Right.f bt213.1 bt213.2.1 bt213.2.2).bind fun t218 => (if t218 = true then (if a0_0 = a1_0 then (if a0_1 = a1_1 then (rillmeterlaw10_BloomMerges.j1 kj2 bt200.2.2.2 ((l0_2.length : Int) != (l1_2.length : Int)) a0_0 a0_1 l0_2 a1_0 a1_1 l1_2 bt200.1 bt200.2.1 bt200.2.2.1) else (rillmeterlaw10_BloomMerges.j1 kj2 bt200.2.2.2 true a0_0 a0_1 l0_2 a1_0 a1_1 l1_2 bt200.1 bt200.2.1 bt200.2.2.1)) else (rillmeterlaw10_BloomMerges.j1 kj2 bt200.2.2.2 true a0_0 a0_1 l0_2 a1_0 a1_1 l1_2 bt200.1 bt200.2.1 bt200.2.2.1)) else (rillmeterlaw10_BloomMerges.j1 kj2 bt200.2.2.2 true a0_0 a0_1 l0_2 a1_0 a1_1 l1_2 bt200.1 bt200.2.1 bt200.2.2.1)))) else (rillmeterlaw10_BloomMerges.j1 kj2 bt200.2.2.2 true a0_0 a0_1 l0_2 a1_0 a1_1 l1_2 bt200.1 bt200.2.1 bt200.2.2.1))))) = some r := by rw [if_neg (show ¬ (false = true) by decide)] at H; exact H
        clear H
        have H := H1
        clear H1
        replace H := Option.bind_eq_some_iff.mp H
        obtain ⟨⟨t200, t201, t202, t205⟩, A150, H⟩ := H
        replace H : ((rillmeterlaw10_ref.f a0_0 a0_1 l0_2).bind fun bt207 => ((rillmeterref10_Right.f bt207.1 bt207.2.1 bt207.2.2).bind fun t212 => (if t212 = true then ((rillmeterlaw10_ref.f a1_0 a1_1 l1_2).bind fun bt213 => ((rillmeterref10_Right.f bt213.1 bt213.2.1 bt213.2.2).bind fun t218 => (if t218 = true then (if a0_0 = a1_0 then (if a0_1 = a1_1 then (rillmeterlaw10_BloomMerges.j1 kj2 t205 ((l0_2.length : Int) != (l1_2.length : Int)) a0_0 a0_1 l0_2 a1_0 a1_1 l1_2 t200 t201 t202) else (rillmeterlaw10_BloomMerges.j1 kj2 t205 true a0_0 a0_1 l0_2 a1_0 a1_1 l1_2 t200 t201 t202)) else (rillmeterlaw10_BloomMerges.j1 kj2 t205 true a0_0 a0_1 l0_2 a1_0 a1_1 l1_2 t200 t201 t202)) else (rillmeterlaw10_BloomMerges.j1 kj2 t205 true a0_0 a0_1 l0_2 a1_0 a1_1 l1_2 t200 t201 t202)))) else (rillmeterlaw10_BloomMerges.j1 kj2 t205 true a0_0 a0_1 l0_2 a1_0 a1_1 l1_2 t200 t201 t202)))) = some r := H
        have A15 := Aside0.mk A150
        clear A150
        have HC16 := Aside0.mk H
        clear H
        have hnb17 := NB197_198.out
        have hnc17 := NB198_197.out
        have hcz18_0 : wc.cell? ⟨gb197, 0, none⟩ = some (.int .u64 a0_0) := (blk_cell BK197.out 0).trans rfl
        have hcz18_1 : wc.cell? ⟨gb197, 1, none⟩ = some (.int .i64 a0_1) := (blk_cell BK197.out 1).trans rfl
        have hcz18_2 : wc.cell? ⟨gb197, 2, none⟩ = some (.slice A0_2 l0_2.length c0_2) := (blk_cell BK197.out 2).trans rfl
        have hfz18_0 := blk_frozen BK197.out 0
        have hfz18_1 := blk_frozen BK197.out 1
        have hfz18_2 := blk_frozen BK197.out 2
        have hcz19_0 : wc.cell? ⟨gb198, 0, none⟩ = some (.int .u64 a1_0) := (blk_cell BK198.out 0).trans rfl
        have hcz19_1 : wc.cell? ⟨gb198, 1, none⟩ = some (.int .i64 a1_1) := (blk_cell BK198.out 1).trans rfl
        have hcz19_2 : wc.cell? ⟨gb198, 2, none⟩ = some (.slice A1_2 l1_2.length c1_2) := (blk_cell BK198.out 2).trans rfl
        have hfz19_0 := blk_frozen BK198.out 0
        have hfz19_1 := blk_frozen BK198.out 1
        have hfz19_2 := blk_frozen BK198.out 2
        go_upto_region 4 with (first | (go_at_call 25; (with_reducible refine (bloom_Merge.calls kj2 a0_0 a0_1 _ _ l0_2 a1_0 a1_1 _ _ l1_2 t200 t201 t202 t205 _ ?side1 ?side2 ?side3 ?side4 A15.out).mono ?_); (case side1 => repeat (first | exact (Kd.C_below HR0_2.out HB.out) | (with_reducible refine Kd.C_alloc ?_ _) | (with_reducible refine Kd.C_drewN ?_ _) | (with_reducible refine Kd.C_drew ?_))); (case side2 => exact HC0_2.out); (case side3 => repeat (first | exact (Kd.C_below HR1_2.out HB.out) | (with_reducible refine Kd.C_alloc ?_ _) | (with_reducible refine Kd.C_drewN ?_ _) | (with_reducible refine Kd.C_drew ?_))); (case side4 => exact HC1_2.out); rintro e w20 ⟨v203, rfl, ho0, hb⟩; have n0_ := Aside0.mk (Kd.R_lower ho0 (below_size (bl_ HB))); have n1_ := Aside0.mk (blk_below (bk_ BK197) hb); have n2_ := Aside0.mk (blk_below (bk_ BK198) hb); have n3_ := Aside0.mk (below_step (bl_ HB) hb); clear BK197; clear BK198; clear HB; have HO204 := n0_; have BK197 := n1_; have BK198 := n2_; have HB := n3_; clear n0_ n1_ n2_ n3_; (try clear hb); (try clear hb2); (try clear hk); (try clear hi); (try clear ho0)) | ((with_reducible refine gate_dst (N := 5) rfl ?_); (try (refine gate_guard (by rfl) ?_; dsimp only)); refine box_event ?hg (N := 5) ?hd (cs := #[.int .u64 0, .int .i64 0, .slice none 0 0]) (t := 25) ?hr ?_; (case hd => rfl); (case hg => rfl); (case hr => first | (go_simp; done) | (go_simp; rfl)); intro gb206 hg w21 hbox hb; have n0_ := Aside0.mk (Kd.R_below (by (with_reducible repeat (first | apply Kd.R_alloc | apply Kd.R_drewN | apply Kd.R_drew)); exact HO204.out) hb); have n1_ := Aside0.mk (blk_below (bk_ BK197) hb); have n2_ := Aside0.mk (blk_below (bk_ BK198) hb); have n3_ := Aside0.mk (below_step (bl_ HB) hb); have n4_ := Aside0.mk (hbox); have n5_ := Aside0.mk ((by rw [hg]; exact (below_size (bl_ HB)) : w.heap.size ≤ gb206)); have n6_ := Aside0.mk ((by rw [hg]; exact (below_size (bl_ HB)) : w.heap.size ≤ gb206)); have n7_ := Aside0.mk ((by rw [hg]; exact Nat.ne_of_lt (blk_lt (g := gb197) (o := .cells #[.int .u64 a0_0, .int .i64 a0_1, .slice A0_2 l0_2.length c0_2] 25 (0, 0)) (bk_ BK197)) : gb197 ≠ gb206)); have n8_ := Aside0.mk ((by rw [hg]; exact Nat.ne_of_gt (blk_lt (g := gb197) (o := .cells #[.int .u64 a0_0, .int .i64 a0_1, .slice A0_2 l0_2.length c0_2] 25 (0, 0)) (bk_ BK197)) : gb206 ≠ gb197)); have n9_ := Aside0.mk ((by rw [hg]; exact Nat.ne_of_lt (blk_lt (g := gb198) (o := .cells #[.int .u64 a1_0, .int .i64 a1_1, .slice A1_2 l1_2.length c1_2] 25 (0, 0)) (bk_ BK198)) : gb198 ≠ gb206)); have n10_ := Aside0.mk ((by rw [hg]; exact Nat.ne_of_gt (blk_lt (g := gb198) (o := .cells #[.int .u64 a1_0, .int .i64 a1_1, .slice A1_2 l1_2.length c1_2] 25 (0, 0)) (bk_ BK198)) : gb206 ≠ gb198)); clear HO204; clear BK197; clear BK198; clear HB; have HO204 := n0_; have BK197 := n1_; have BK198 := n2_; have HB := n3_; have BK206 := n4_; have GW206 := n5_; have GE206 := n6_; have NB197_206 := n7_; have NB206_197 := n8_; have NB198_206 := n9_; have NB206_198 := n10_; clear n0_ n1_ n2_ n3_ n4_ n5_ n6_ n7_ n8_ n9_ n10_; clear hb hbox hg; have hnb22 := NB206_197.out; have hnc22 := NB197_206.out; have hnb23 := NB206_198.out; have hnc23 := NB198_206.out; have hcz24_0 : w21.cell? ⟨gb206, 0, none⟩ = some (.int .u64 0) := (blk_cell BK206.out 0).trans rfl; have hcz24_1 : w21.cell? ⟨gb206, 1, none⟩ = some (.int .i64 0) := (blk_cell BK206.out 1).trans rfl; have hcz24_2 : w21.cell? ⟨gb206, 2, none⟩ = some (.slice none 0 0) := (blk_cell BK206.out 2).trans rfl; have hfz24_0 := blk_frozen BK206.out 0; have hfz24_1 := blk_frozen BK206.out 1; have hfz24_2 := blk_frozen BK206.out 2; obtain ⟨Ao25, co25, eo25⟩ := Kd.R_slice HO204.out; subst eo25))
        repeat (go_quiet (first | (go_at_call 25; (with_reducible refine (bloom_Merge.calls kj2 a0_0 a0_1 _ _ l0_2 a1_0 a1_1 _ _ l1_2 t200 t201 t202 t205 _ ?side1 ?side2 ?side3 ?side4 A15.out).mono ?_); (case side1 => repeat (first | exact (Kd.C_below HR0_2.out HB.out) | (with_reducible refine Kd.C_alloc ?_ _) | (with_reducible refine Kd.C_drewN ?_ _) | (with_reducible refine Kd.C_drew ?_))); (case side2 => exact HC0_2.out); (case side3 => repeat (first | exact (Kd.C_below HR1_2.out HB.out) | (with_reducible refine Kd.C_alloc ?_ _) | (with_reducible refine Kd.C_drewN ?_ _) | (with_reducible refine Kd.C_drew ?_))); (case side4 => exact HC1_2.out); rintro e w20 ⟨v203, rfl, ho0, hb⟩; have n0_ := Aside0.mk (Kd.R_lower ho0 (below_size (bl_ HB))); have n1_ := Aside0.mk (blk_below (bk_ BK197) hb); have n2_ := Aside0.mk (blk_below (bk_ BK198) hb); have n3_ := Aside0.mk (below_step (bl_ HB) hb); clear BK197; clear BK198; clear HB; have HO204 := n0_; have BK197 := n1_; have BK198 := n2_; have HB := n3_; clear n0_ n1_ n2_ n3_; (try clear hb); (try clear hb2); (try clear hk); (try clear hi); (try clear ho0)) | ((with_reducible refine gate_dst (N := 5) rfl ?_); (try (refine gate_guard (by rfl) ?_; dsimp only)); refine box_event ?hg (N := 5) ?hd (cs := #[.int .u64 0, .int .i64 0, .slice none 0 0]) (t := 25) ?hr ?_; (case hd => rfl); (case hg => rfl); (case hr => first | (go_simp; done) | (go_simp; rfl)); intro gb206 hg w21 hbox hb; have n0_ := Aside0.mk (Kd.R_below (by (with_reducible repeat (first | apply Kd.R_alloc | apply Kd.R_drewN | apply Kd.R_drew)); exact HO204.out) hb); have n1_ := Aside0.mk (blk_below (bk_ BK197) hb); have n2_ := Aside0.mk (blk_below (bk_ BK198) hb); have n3_ := Aside0.mk (below_step (bl_ HB) hb); have n4_ := Aside0.mk (hbox); have n5_ := Aside0.mk ((by rw [hg]; exact (below_size (bl_ HB)) : w.heap.size ≤ gb206)); have n6_ := Aside0.mk ((by rw [hg]; exact (below_size (bl_ HB)) : w.heap.size ≤ gb206)); have n7_ := Aside0.mk ((by rw [hg]; exact Nat.ne_of_lt (blk_lt (g := gb197) (o := .cells #[.int .u64 a0_0, .int .i64 a0_1, .slice A0_2 l0_2.length c0_2] 25 (0, 0)) (bk_ BK197)) : gb197 ≠ gb206)); have n8_ := Aside0.mk ((by rw [hg]; exact Nat.ne_of_gt (blk_lt (g := gb197) (o := .cells #[.int .u64 a0_0, .int .i64 a0_1, .slice A0_2 l0_2.length c0_2] 25 (0, 0)) (bk_ BK197)) : gb206 ≠ gb197)); have n9_ := Aside0.mk ((by rw [hg]; exact Nat.ne_of_lt (blk_lt (g := gb198) (o := .cells #[.int .u64 a1_0, .int .i64 a1_1, .slice A1_2 l1_2.length c1_2] 25 (0, 0)) (bk_ BK198)) : gb198 ≠ gb206)); have n10_ := Aside0.mk ((by rw [hg]; exact Nat.ne_of_gt (blk_lt (g := gb198) (o := .cells #[.int .u64 a1_0, .int .i64 a1_1, .slice A1_2 l1_2.length c1_2] 25 (0, 0)) (bk_ BK198)) : gb206 ≠ gb198)); clear HO204; clear BK197; clear BK198; clear HB; have HO204 := n0_; have BK197 := n1_; have BK198 := n2_; have HB := n3_; have BK206 := n4_; have GW206 := n5_; have GE206 := n6_; have NB197_206 := n7_; have NB206_197 := n8_; have NB198_206 := n9_; have NB206_198 := n10_; clear n0_ n1_ n2_ n3_ n4_ n5_ n6_ n7_ n8_ n9_ n10_; clear hb hbox hg; have hnb22 := NB206_197.out; have hnc22 := NB197_206.out; have hnb23 := NB206_198.out; have hnc23 := NB198_206.out; have hcz24_0 : w21.cell? ⟨gb206, 0, none⟩ = some (.int .u64 0) := (blk_cell BK206.out 0).trans rfl; have hcz24_1 : w21.cell? ⟨gb206, 1, none⟩ = some (.int .i64 0) := (blk_cell BK206.out 1).trans rfl; have hcz24_2 : w21.cell? ⟨gb206, 2, none⟩ = some (.slice none 0 0) := (blk_cell BK206.out 2).trans rfl; have hfz24_0 := blk_frozen BK206.out 0; have hfz24_1 := blk_frozen BK206.out 1; have hfz24_2 := blk_frozen BK206.out 2; obtain ⟨Ao25, co25, eo25⟩ := Kd.R_slice HO204.out; subst eo25)); go_upto_region 4 with (first | (go_at_call 25; (with_reducible refine (bloom_Merge.calls kj2 a0_0 a0_1 _ _ l0_2 a1_0 a1_1 _ _ l1_2 t200 t201 t202 t205 _ ?side1 ?side2 ?side3 ?side4 A15.out).mono ?_); (case side1 => repeat (first | exact (Kd.C_below HR0_2.out HB.out) | (with_reducible refine Kd.C_alloc ?_ _) | (with_reducible refine Kd.C_drewN ?_ _) | (with_reducible refine Kd.C_drew ?_))); (case side2 => exact HC0_2.out); (case side3 => repeat (first | exact (Kd.C_below HR1_2.out HB.out) | (with_reducible refine Kd.C_alloc ?_ _) | (with_reducible refine Kd.C_drewN ?_ _) | (with_reducible refine Kd.C_drew ?_))); (case side4 => exact HC1_2.out); rintro e w20 ⟨v203, rfl, ho0, hb⟩; have n0_ := Aside0.mk (Kd.R_lower ho0 (below_size (bl_ HB))); have n1_ := Aside0.mk (blk_below (bk_ BK197) hb); have n2_ := Aside0.mk (blk_below (bk_ BK198) hb); have n3_ := Aside0.mk (below_step (bl_ HB) hb); clear BK197; clear BK198; clear HB; have HO204 := n0_; have BK197 := n1_; have BK198 := n2_; have HB := n3_; clear n0_ n1_ n2_ n3_; (try clear hb); (try clear hb2); (try clear hk); (try clear hi); (try clear ho0)) | ((with_reducible refine gate_dst (N := 5) rfl ?_); (try (refine gate_guard (by rfl) ?_; dsimp only)); refine box_event ?hg (N := 5) ?hd (cs := #[.int .u64 0, .int .i64 0, .slice none 0 0]) (t := 25) ?hr ?_; (case hd => rfl); (case hg => rfl); (case hr => first | (go_simp; done) | (go_simp; rfl)); intro gb206 hg w21 hbox hb; have n0_ := Aside0.mk (Kd.R_below (by (with_reducible repeat (first | apply Kd.R_alloc | apply Kd.R_drewN | apply Kd.R_drew)); exact HO204.out) hb); have n1_ := Aside0.mk (blk_below (bk_ BK197) hb); have n2_ := Aside0.mk (blk_below (bk_ BK198) hb); have n3_ := Aside0.mk (below_step (bl_ HB) hb); have n4_ := Aside0.mk (hbox); have n5_ := Aside0.mk ((by rw [hg]; exact (below_size (bl_ HB)) : w.heap.size ≤ gb206)); have n6_ := Aside0.mk ((by rw [hg]; exact (below_size (bl_ HB)) : w.heap.size ≤ gb206)); have n7_ := Aside0.mk ((by rw [hg]; exact Nat.ne_of_lt (blk_lt (g := gb197) (o := .cells #[.int .u64 a0_0, .int .i64 a0_1, .slice A0_2 l0_2.length c0_2] 25 (0, 0)) (bk_ BK197)) : gb197 ≠ gb206)); have n8_ := Aside0.mk ((by rw [hg]; exact Nat.ne_of_gt (blk_lt (g := gb197) (o := .cells #[.int .u64 a0_0, .int .i64 a0_1, .slice A0_2 l0_2.length c0_2] 25 (0, 0)) (bk_ BK197)) : gb206 ≠ gb197)); have n9_ := Aside0.mk ((by rw [hg]; exact Nat.ne_of_lt (blk_lt (g := gb198) (o := .cells #[.int .u64 a1_0, .int .i64 a1_1, .slice A1_2 l1_2.length c1_2] 25 (0, 0)) (bk_ BK198)) : gb198 ≠ gb206)); have n10_ := Aside0.mk ((by rw [hg]; exact Nat.ne_of_gt (blk_lt (g := gb198) (o := .cells #[.int .u64 a1_0, .int .i64 a1_1, .slice A1_2 l1_2.length c1_2] 25 (0, 0)) (bk_ BK198)) : gb206 ≠ gb198)); clear HO204; clear BK197; clear BK198; clear HB; have HO204 := n0_; have BK197 := n1_; have BK198 := n2_; have HB := n3_; have BK206 := n4_; have GW206 := n5_; have GE206 := n6_; have NB197_206 := n7_; have NB206_197 := n8_; have NB198_206 := n9_; have NB206_198 := n10_; clear n0_ n1_ n2_ n3_ n4_ n5_ n6_ n7_ n8_ n9_ n10_; clear hb hbox hg; have hnb22 := NB206_197.out; have hnc22 := NB197_206.out; have hnb23 := NB206_198.out; have hnc23 := NB198_206.out; have hcz24_0 : w21.cell? ⟨gb206, 0, none⟩ = some (.int .u64 0) := (blk_cell BK206.out 0).trans rfl; have hcz24_1 : w21.cell? ⟨gb206, 1, none⟩ = some (.int .i64 0) := (blk_cell BK206.out 1).trans rfl; have hcz24_2 : w21.cell? ⟨gb206, 2, none⟩ = some (.slice none 0 0) := (blk_cell BK206.out 2).trans rfl; have hfz24_0 := blk_frozen BK206.out 0; have hfz24_1 := blk_frozen BK206.out 1; have hfz24_2 := blk_frozen BK206.out 2; obtain ⟨Ao25, co25, eo25⟩ := Kd.R_slice HO204.out; subst eo25)))
        (try simp only [Act.put, List.setIfInBounds_toArray, List.set_cons_zero, List.set_cons_succ])
        go_cut [57] (fun v57 wc => ∃ (kq : Nat) (x57_15 : Bool), v57 = .bool x57_15 ∧ Aside0 (rillmeterlaw10_BloomMerges.j1 kq t205 x57_15 a0_0 a0_1 l0_2 a1_0 a1_1 l1_2 t200 t201 t202 = some r) ∧ Aside0 (kq ≤ kj2) ∧ Aside0 (Kd.R Kd.bool 4 wc w.heap.size (fun _ => True) (.slice Ao25 t202.length co25) t202) ∧ Aside0 (wc.heap[gb197]? = some (.cells #[.int .u64 a0_0, .int .i64 a0_1, (.slice A0_2 l0_2.length c0_2)] 25 (0, 0))) ∧ Aside0 (wc.heap[gb198]? = some (.cells #[.int .u64 a1_0, .int .i64 a1_1, (.slice A1_2 l1_2.length c1_2)] 25 (0, 0))) ∧ Aside0 (wc.heap[gb206]? = some (.cells #[.int .u64 t200, .int .i64 t201, (.slice Ao25 t202.length co25)] 25 (0, 0))) ∧ Aside0 (Below w.heap.size w wc))
        case first =>
          have H := HC16.out
          clear HC16
          replace H := Option.bind_eq_some_iff.mp H
          obtain ⟨⟨t207, t208, t209⟩, A260, H⟩ := H
          replace H : ((rillmeterref10_Right.f t207 t208 t209).bind fun t212 => (if t212 = true then ((rillmeterlaw10_ref.f a1_0 a1_1 l1_2).bind fun bt213 => ((rillmeterref10_Right.f bt213.1 bt213.2.1 bt213.2.2).bind fun t218 => (if t218 = true then (if a0_0 = a1_0 then (if a0_1 = a1_1 then (rillmeterlaw10_BloomMerges.j1 kj2 t205 ((l0_2.length : Int) != (l1_2.length : Int)) a0_0 a0_1 l0_2 a1_0 a1_1 l1_2 t200 t201 t202) else (rillmeterlaw10_BloomMerges.j1 kj2 t205 true a0_0 a0_1 l0_2 a1_0 a1_1 l1_2 t200 t201 t202)) else (rillmeterlaw10_BloomMerges.j1 kj2 t205 true a0_0 a0_1 l0_2 a1_0 a1_1 l1_2 t200 t201 t202)) else (rillmeterlaw10_BloomMerges.j1 kj2 t205 true a0_0 a0_1 l0_2 a1_0 a1_1 l1_2 t200 t201 t202)))) else (rillmeterlaw10_BloomMerges.j1 kj2 t205 true a0_0 a0_1 l0_2 a1_0 a1_1 l1_2 t200 t201 t202))) = some r := H
          have A26 := Aside0.mk A260
          clear A260
          replace H := Option.bind_eq_some_iff.mp H
          obtain ⟨t212, A270, H⟩ := H
          replace H : (if t212 = true then ((rillmeterlaw10_ref.f a1_0 a1_1 l1_2).bind fun bt213 => ((rillmeterref10_Right.f bt213.1 bt213.2.1 bt213.2.2).bind fun t218 => (if t218 = true then (if a0_0 = a1_0 then (if a0_1 = a1_1 then (rillmeterlaw10_BloomMerges.j1 kj2 t205 ((l0_2.length : Int) != (l1_2.length : Int)) a0_0 a0_1 l0_2 a1_0 a1_1 l1_2 t200 t201 t202) else (rillmeterlaw10_BloomMerges.j1 kj2 t205 true a0_0 a0_1 l0_2 a1_0 a1_1 l1_2 t200 t201 t202)) else (rillmeterlaw10_BloomMerges.j1 kj2 t205 true a0_0 a0_1 l0_2 a1_0 a1_1 l1_2 t200 t201 t202)) else (rillmeterlaw10_BloomMerges.j1 kj2 t205 true a0_0 a0_1 l0_2 a1_0 a1_1 l1_2 t200 t201 t202)))) else (rillmeterlaw10_BloomMerges.j1 kj2 t205 true a0_0 a0_1 l0_2 a1_0 a1_1 l1_2 t200 t201 t202)) = some r := H
          have A27 := Aside0.mk A270
          clear A270
          by_cases c28 : t212 = true
          · subst c28
            have H1 : ((rillmeterlaw10_ref.f a1_0 a1_1 l1_2).bind fun bt213 => ((rillmeterref10_Right.f bt213.1 bt213.2.1 bt213.2.2).bind fun t218 => (if t218 = true then (if a0_0 = a1_0 then (if a0_1 = a1_1 then (rillmeterlaw10_BloomMerges.j1 kj2 t205 ((l0_2.length : Int) != (l1_2.length : Int)) a0_0 a0_1 l0_2 a1_0 a1_1 l1_2 t200 t201 t202) else (rillmeterlaw10_BloomMerges.j1 kj2 t205 true a0_0 a0_1 l0_2 a1_0 a1_1 l1_2 t200 t201 t202)) else (rillmeterlaw10_BloomMerges.j1 kj2 t205 true a0_0 a0_1 l0_2 a1_0 a1_1 l1_2 t200 t201 t202)) else (rillmeterlaw10_BloomMerges.j1 kj2 t205 true a0_0 a0_1 l0_2 a1_0 a1_1 l1_2 t200 t201 t202)))) = some r := by rw [if_pos rfl] at H; exact H
            clear H
            have H := H1
            clear H1
            replace H := Option.bind_eq_some_iff.mp H
            obtain ⟨⟨t213, t214, t215⟩, A290, H⟩ := H
            replace H : ((rillmeterref10_Right.f t213 t214 t215).bind fun t218 => (if t218 = true then (if a0_0 = a1_0 then (if a0_1 = a1_1 then (rillmeterlaw10_BloomMerges.j1 kj2 t205 ((l0_2.length : Int) != (l1_2.length : Int)) a0_0 a0_1 l0_2 a1_0 a1_1 l1_2 t200 t201 t202) else (rillmeterlaw10_BloomMerges.j1 kj2 t205 true a0_0 a0_1 l0_2 a1_0 a1_1 l1_2 t200 t201 t202)) else (rillmeterlaw10_BloomMerges.j1 kj2 t205 true a0_0 a0_1 l0_2 a1_0 a1_1 l1_2 t200 t201 t202)) else (rillmeterlaw10_BloomMerges.j1 kj2 t205 true a0_0 a0_1 l0_2 a1_0 a1_1 l1_2 t200 t201 t202))) = some r := H
            have A29 := Aside0.mk A290
            clear A290
            replace H := Option.bind_eq_some_iff.mp H
            obtain ⟨t218, A300, H⟩ := H
            replace H : (if t218 = true then (if a0_0 = a1_0 then (if a0_1 = a1_1 then (rillmeterlaw10_BloomMerges.j1 kj2 t205 ((l0_2.length : Int) != (l1_2.length : Int)) a0_0 a0_1 l0_2 a1_0 a1_1 l1_2 t200 t201 t202) else (rillmeterlaw10_BloomMerges.j1 kj2 t205 true a0_0 a0_1 l0_2 a1_0 a1_1 l1_2 t200 t201 t202)) else (rillmeterlaw10_BloomMerges.j1 kj2 t205 true a0_0 a0_1 l0_2 a1_0 a1_1 l1_2 t200 t201 t202)) else (rillmeterlaw10_BloomMerges.j1 kj2 t205 true a0_0 a0_1 l0_2 a1_0 a1_1 l1_2 t200 t201 t202)) = some r := H
            have A30 := Aside0.mk A300
            clear A300
            by_cases c31 : t218 = true
            · subst c31
              have H1 : (if a0_0 = a1_0 then (if a0_1 = a1_1 then (rillmeterlaw10_BloomMerges.j1 kj2 t205 ((l0_2.length : Int) != (l1_2.length : Int)) a0_0 a0_1 l0_2 a1_0 a1_1 l1_2 t200 t201 t202) else (rillmeterlaw10_BloomMerges.j1 kj2 t205 true a0_0 a0_1 l0_2 a1_0 a1_1 l1_2 t200 t201 t202)) else (rillmeterlaw10_BloomMerges.j1 kj2 t205 true a0_0 a0_1 l0_2 a1_0 a1_1 l1_2 t200 t201 t202)) = some r := by rw [if_pos rfl] at H; exact H
              clear H
              have H := H1
              clear H1
              by_cases c32 : a0_0 = a1_0
              · rw [if_pos c32] at H
                have c32b0 : (a0_0 == a1_0) = true := beq_iff_eq.mpr c32
                have c32b1 : (a0_0 != a1_0) = false := bne_eq_false_iff_eq.mpr c32
                clear c32
                (first | rw [c32b0] | (simp only [i64_w, i32_w]; rw [c32b0]) | skip)
                by_cases c33 : a0_1 = a1_1
                · rw [if_pos c33] at H
                  have c33b0 : (a0_1 == a1_1) = true := beq_iff_eq.mpr c33
                  have c33b1 : (a0_1 != a1_1) = false := bne_eq_false_iff_eq.mpr c33
                  clear c33
                  have H' := Aside0.mk H
                  clear H
                  have hnb34 := NB197_198.out
                  have hnc34 := NB198_197.out
                  have hnb35 := NB197_206.out
                  have hnc35 := NB206_197.out
                  have hcz36_0 : w21.cell? ⟨gb197, 0, none⟩ = some (.int .u64 a0_0) := (blk_cell BK197.out 0).trans rfl
                  have hcz36_1 : w21.cell? ⟨gb197, 1, none⟩ = some (.int .i64 a0_1) := (blk_cell BK197.out 1).trans rfl
                  have hcz36_2 : w21.cell? ⟨gb197, 2, none⟩ = some (.slice A0_2 l0_2.length c0_2) := (blk_cell BK197.out 2).trans rfl
                  have hfz36_0 := blk_frozen BK197.out 0
                  have hfz36_1 := blk_frozen BK197.out 1
                  have hfz36_2 := blk_frozen BK197.out 2
                  go_wp2_with (first | (go_at_call 11; (with_reducible refine (rillmeterlaw10_ref.calls a0_0 a0_1 (fun k_ => k_ < w.heap.size) _ _ l0_2 t207 t208 t209 _ ?side1 A26.out).mono ?_); (case side1 => exact Kd.V_mk HC0_2.out (Kd.F_below (Kd.C_F Kd.heap_bool HR0_2.out) (bl_ HB))); rintro e w37 ⟨v210, rfl, ho0, hb⟩; have n0_ := Aside0.mk (Kd.R_below (by (with_reducible repeat (first | apply Kd.R_alloc | apply Kd.R_drewN | apply Kd.R_drew)); exact (Kd.R_mono (Kd.R_far (p := ⟨gb206, 2, none⟩) (Kd.R_far (p := ⟨gb206, 1, none⟩) (Kd.R_far (p := ⟨gb206, 0, none⟩) (Kd.R_types HO204.out BK206.out (by decide)) (fun _ hk => hk.2) (.int .u64 t200)) (fun _ hk => hk.2) (.int .i64 t201)) (fun _ hk => hk.2) (.slice Ao25 t202.length co25)) (fun _ h_ => h_.1))) hb); have n1_ := Aside0.mk (Kd.V_lower (Kd.V_mono (ok' := fun k_ => some k_ ≠ (.slice Ao25 t202.length co25 : Value).ownBlock ∧ k_ ≠ gb197 ∧ k_ ≠ gb198 ∧ k_ ≠ gb206) ho0 (fun k_ hk_ => ⟨Or.elim hk_ (fun hs_ => fun e_ => Nat.not_le.2 hs_ (Kd.R_base HO204.out k_ e_.symm)) (fun hn_ => (Kd.fresh' (Kd.R_lt (by (with_reducible repeat (first | apply Kd.R_alloc | apply Kd.R_drewN | apply Kd.R_drew)); exact (Kd.R_mono (Kd.R_far (p := ⟨gb206, 2, none⟩) (Kd.R_far (p := ⟨gb206, 1, none⟩) (Kd.R_far (p := ⟨gb206, 0, none⟩) (Kd.R_types HO204.out BK206.out (by decide)) (fun _ hk => hk.2) (.int .u64 t200)) (fun _ hk => hk.2) (.int .i64 t201)) (fun _ hk => hk.2) (.slice Ao25 t202.length co25)) (fun _ h_ => h_.1)))) k_ hn_)), Or.elim hk_ (fun hs_ => fun e_ => Nat.not_le.2 hs_ (by rw [e_]; exact GW197.out)) (fun hn_ => (Kd.freshB (g := gb197) (o := .cells #[.int .u64 a0_0, .int .i64 a0_1, .slice A0_2 l0_2.length c0_2] 25 (0, 0)) (by (with_reducible repeat (first | refine blk_drewN ?_ _ | refine blk_drew ?_ | refine blk_alloc ?_ _)); refine blk_far ?_ NB197_206.out _; (with_reducible repeat (first | refine blk_drewN ?_ _ | refine blk_drew ?_ | refine blk_alloc ?_ _)); refine blk_far ?_ NB197_206.out _; (with_reducible repeat (first | refine blk_drewN ?_ _ | refine blk_drew ?_ | refine blk_alloc ?_ _)); refine blk_far ?_ NB197_206.out _; (with_reducible repeat (first | refine blk_drewN ?_ _ | refine blk_drew ?_ | refine blk_alloc ?_ _)); exact BK197.out) k_ hn_)), Or.elim hk_ (fun hs_ => fun e_ => Nat.not_le.2 hs_ (by rw [e_]; exact GW198.out)) (fun hn_ => (Kd.freshB (g := gb198) (o := .cells #[.int .u64 a1_0, .int .i64 a1_1, .slice A1_2 l1_2.length c1_2] 25 (0, 0)) (by (with_reducible repeat (first | refine blk_drewN ?_ _ | refine blk_drew ?_ | refine blk_alloc ?_ _)); refine blk_far ?_ NB198_206.out _; (with_reducible repeat (first | refine blk_drewN ?_ _ | refine blk_drew ?_ | refine blk_alloc ?_ _)); refine blk_far ?_ NB198_206.out _; (with_reducible repeat (first | refine blk_drewN ?_ _ | refine blk_drew ?_ | refine blk_alloc ?_ _)); refine blk_far ?_ NB198_206.out _; (with_reducible repeat (first | refine blk_drewN ?_ _ | refine blk_drew ?_ | refine blk_alloc ?_ _)); exact BK198.out) k_ hn_)), Or.elim hk_ (fun hs_ => fun e_ => Nat.not_le.2 hs_ (by rw [e_]; exact GW206.out)) (fun hn_ => (Kd.freshB (g := gb206) (o := .cells #[.int .u64 t200, .int .i64 t201, .slice Ao25 t202.length co25] 25 (0, 0)) (by (with_reducible repeat (first | refine blk_drewN ?_ _ | refine blk_drew ?_ | refine blk_alloc ?_ _)); refine blk_put (cs := #[.int .u64 t200, .int .i64 t201, .slice none 0 0]) ?_ 2 _ rfl; (with_reducible repeat (first | refine blk_drewN ?_ _ | refine blk_drew ?_ | refine blk_alloc ?_ _)); refine blk_put (cs := #[.int .u64 t200, .int .i64 0, .slice none 0 0]) ?_ 1 _ rfl; (with_reducible repeat (first | refine blk_drewN ?_ _ | refine blk_drew ?_ | refine blk_alloc ?_ _)); refine blk_put (cs := #[.int .u64 0, .int .i64 0, .slice none 0 0]) ?_ 0 _ rfl; (with_reducible repeat (first | refine blk_drewN ?_ _ | refine blk_drew ?_ | refine blk_alloc ?_ _)); exact BK206.out) k_ hn_))⟩)) (below_size (bl_ HB))); have n2_ := Aside0.mk (blk_below (g := gb197) (o := .cells #[.int .u64 a0_0, .int .i64 a0_1, .slice A0_2 l0_2.length c0_2] 25 (0, 0)) (by (with_reducible repeat (first | refine blk_drewN ?_ _ | refine blk_drew ?_ | refine blk_alloc ?_ _)); refine blk_far ?_ NB197_206.out _; (with_reducible repeat (first | refine blk_drewN ?_ _ | refine blk_drew ?_ | refine blk_alloc ?_ _)); refine blk_far ?_ NB197_206.out _; (with_reducible repeat (first | refine blk_drewN ?_ _ | refine blk_drew ?_ | refine blk_alloc ?_ _)); refine blk_far ?_ NB197_206.out _; (with_reducible repeat (first | refine blk_drewN ?_ _ | refine blk_drew ?_ | refine blk_alloc ?_ _)); exact BK197.out) hb); have n3_ := Aside0.mk (blk_below (g := gb198) (o := .cells #[.int .u64 a1_0, .int .i64 a1_1, .slice A1_2 l1_2.length c1_2] 25 (0, 0)) (by (with_reducible repeat (first | refine blk_drewN ?_ _ | refine blk_drew ?_ | refine blk_alloc ?_ _)); refine blk_far ?_ NB198_206.out _; (with_reducible repeat (first | refine blk_drewN ?_ _ | refine blk_drew ?_ | refine blk_alloc ?_ _)); refine blk_far ?_ NB198_206.out _; (with_reducible repeat (first | refine blk_drewN ?_ _ | refine blk_drew ?_ | refine blk_alloc ?_ _)); refine blk_far ?_ NB198_206.out _; (with_reducible repeat (first | refine blk_drewN ?_ _ | refine blk_drew ?_ | refine blk_alloc ?_ _)); exact BK198.out) hb); have n4_ := Aside0.mk (blk_below (g := gb206) (o := .cells #[.int .u64 t200, .int .i64 t201, .slice Ao25 t202.length co25] 25 (0, 0)) (by (with_reducible repeat (first | refine blk_drewN ?_ _ | refine blk_drew ?_ | refine blk_alloc ?_ _)); refine blk_put (cs := #[.int .u64 t200, .int .i64 t201, .slice none 0 0]) ?_ 2 _ rfl; (with_reducible repeat (first | refine blk_drewN ?_ _ | refine blk_drew ?_ | refine blk_alloc ?_ _)); refine blk_put (cs := #[.int .u64 t200, .int .i64 0, .slice none 0 0]) ?_ 1 _ rfl; (with_reducible repeat (first | refine blk_drewN ?_ _ | refine blk_drew ?_ | refine blk_alloc ?_ _)); refine blk_put (cs := #[.int .u64 0, .int .i64 0, .slice none 0 0]) ?_ 0 _ rfl; (with_reducible repeat (first | refine blk_drewN ?_ _ | refine blk_drew ?_ | refine blk_alloc ?_ _)); exact BK206.out) hb); have n5_ := Aside0.mk (below_step (bl_ HB) hb); clear HO204; clear BK197; clear BK198; clear BK206; clear HB; have HO204 := n0_; have HO211 := n1_; have BK197 := n2_; have BK198 := n3_; have BK206 := n4_; have HB := n5_; clear n0_ n1_ n2_ n3_ n4_ n5_; (try clear hb); (try clear hb2); (try clear hk); (try clear hi); (try clear ho0); obtain ⟨Ao38, co38, eo38⟩ := Kd.V_slice HO211.out; subst eo38) | (go_at_call 18; (with_reducible refine (rillmeterref10_Right.calls t207 t208 _ _ t209 true _ ?side1 ?side2 A27.out).mono ?_); (case side1 => repeat (first | exact (Kd.V_reads' HO211.out).2.2 | (with_reducible refine Kd.C_alloc ?_ _) | (with_reducible refine Kd.C_drewN ?_ _) | (with_reducible refine Kd.C_drew ?_))); (case side2 => exact (Kd.V_reads' HO211.out).2.1); rintro e w39 ⟨rfl, hb⟩; have n0_ := Aside0.mk (Kd.R_below (by (with_reducible repeat (first | apply Kd.R_alloc | apply Kd.R_drewN | apply Kd.R_drew)); exact HO204.out) hb); have n1_ := Aside0.mk (Kd.V_below (by (with_reducible repeat (first | apply Kd.V_alloc | apply Kd.V_drewN | apply Kd.V_drew)); exact HO211.out) hb); have n2_ := Aside0.mk (blk_below (bk_ BK197) hb); have n3_ := Aside0.mk (blk_below (bk_ BK198) hb); have n4_ := Aside0.mk (blk_below (bk_ BK206) hb); have n5_ := Aside0.mk (below_step (bl_ HB) hb); clear HO204; clear HO211; clear BK197; clear BK198; clear BK206; clear HB; have HO204 := n0_; have HO211 := n1_; have BK197 := n2_; have BK198 := n3_; have BK206 := n4_; have HB := n5_; clear n0_ n1_ n2_ n3_ n4_ n5_; (try clear hb); (try clear hb2); (try clear hk); (try clear hi); have hnb40 := NB198_206.out; have hnc40 := NB206_198.out; have hcz41_0 : w39.cell? ⟨gb198, 0, none⟩ = some (.int .u64 a1_0) := (blk_cell BK198.out 0).trans rfl; have hcz41_1 : w39.cell? ⟨gb198, 1, none⟩ = some (.int .i64 a1_1) := (blk_cell BK198.out 1).trans rfl; have hcz41_2 : w39.cell? ⟨gb198, 2, none⟩ = some (.slice A1_2 l1_2.length c1_2) := (blk_cell BK198.out 2).trans rfl; have hfz41_0 := blk_frozen BK198.out 0; have hfz41_1 := blk_frozen BK198.out 1; have hfz41_2 := blk_frozen BK198.out 2) | (go_at_call 11; (with_reducible refine (rillmeterlaw10_ref.calls a1_0 a1_1 (fun k_ => k_ < w.heap.size) _ _ l1_2 t213 t214 t215 _ ?side1 A29.out).mono ?_); (case side1 => exact Kd.V_mk HC1_2.out (Kd.F_below (Kd.C_F Kd.heap_bool HR1_2.out) (bl_ HB))); rintro e w42 ⟨v216, rfl, ho0, hb⟩; have n0_ := Aside0.mk (Kd.R_below (by (with_reducible repeat (first | apply Kd.R_alloc | apply Kd.R_drewN | apply Kd.R_drew)); exact HO204.out) hb); have n1_ := Aside0.mk (Kd.V_below (by (with_reducible repeat (first | apply Kd.V_alloc | apply Kd.V_drewN | apply Kd.V_drew)); exact HO211.out) hb); have n2_ := Aside0.mk (Kd.V_lower (Kd.V_mono (ok' := fun k_ => some k_ ≠ (.slice Ao25 t202.length co25 : Value).ownBlock ∧ k_ ≠ gb197 ∧ k_ ≠ gb198 ∧ k_ ≠ gb206) ho0 (fun k_ hk_ => ⟨Or.elim hk_ (fun hs_ => fun e_ => Nat.not_le.2 hs_ (Kd.R_base HO204.out k_ e_.symm)) (fun hn_ => (Kd.fresh' (Kd.R_lt (by (with_reducible repeat (first | apply Kd.R_alloc | apply Kd.R_drewN | apply Kd.R_drew)); exact HO204.out)) k_ hn_)), Or.elim hk_ (fun hs_ => fun e_ => Nat.not_le.2 hs_ (by rw [e_]; exact GW197.out)) (fun hn_ => (Kd.freshB (g := gb197) (o := .cells #[.int .u64 a0_0, .int .i64 a0_1, .slice A0_2 l0_2.length c0_2] 25 (0, 0)) (bk_ BK197) k_ hn_)), Or.elim hk_ (fun hs_ => fun e_ => Nat.not_le.2 hs_ (by rw [e_]; exact GW198.out)) (fun hn_ => (Kd.freshB (g := gb198) (o := .cells #[.int .u64 a1_0, .int .i64 a1_1, .slice A1_2 l1_2.length c1_2] 25 (0, 0)) (bk_ BK198) k_ hn_)), Or.elim hk_ (fun hs_ => fun e_ => Nat.not_le.2 hs_ (by rw [e_]; exact GW206.out)) (fun hn_ => (Kd.freshB (g := gb206) (o := .cells #[.int .u64 t200, .int .i64 t201, .slice Ao25 t202.length co25] 25 (0, 0)) (bk_ BK206) k_ hn_))⟩)) (below_size (bl_ HB))); have n3_ := Aside0.mk (blk_below (bk_ BK197) hb); have n4_ := Aside0.mk (blk_below (bk_ BK198) hb); have n5_ := Aside0.mk (blk_below (bk_ BK206) hb); have n6_ := Aside0.mk (below_step (bl_ HB) hb); clear HO204; clear HO211; clear BK197; clear BK198; clear BK206; clear HB; have HO204 := n0_; have HO211 := n1_; have HO217 := n2_; have BK197 := n3_; have BK198 := n4_; have BK206 := n5_; have HB := n6_; clear n0_ n1_ n2_ n3_ n4_ n5_ n6_; (try clear hb); (try clear hb2); (try clear hk); (try clear hi); (try clear ho0); obtain ⟨Ao43, co43, eo43⟩ := Kd.V_slice HO217.out; subst eo43) | (go_at_call 18; (with_reducible refine (rillmeterref10_Right.calls t213 t214 _ _ t215 true _ ?side1 ?side2 A30.out).mono ?_); (case side1 => repeat (first | exact (Kd.V_reads' HO217.out).2.2 | (with_reducible refine Kd.C_alloc ?_ _) | (with_reducible refine Kd.C_drewN ?_ _) | (with_reducible refine Kd.C_drew ?_))); (case side2 => exact (Kd.V_reads' HO217.out).2.1); rintro e w44 ⟨rfl, hb⟩; have n0_ := Aside0.mk (Kd.R_below (by (with_reducible repeat (first | apply Kd.R_alloc | apply Kd.R_drewN | apply Kd.R_drew)); exact HO204.out) hb); have n1_ := Aside0.mk (Kd.V_below (by (with_reducible repeat (first | apply Kd.V_alloc | apply Kd.V_drewN | apply Kd.V_drew)); exact HO211.out) hb); have n2_ := Aside0.mk (Kd.V_below (by (with_reducible repeat (first | apply Kd.V_alloc | apply Kd.V_drewN | apply Kd.V_drew)); exact HO217.out) hb); have n3_ := Aside0.mk (blk_below (bk_ BK197) hb); have n4_ := Aside0.mk (blk_below (bk_ BK198) hb); have n5_ := Aside0.mk (blk_below (bk_ BK206) hb); have n6_ := Aside0.mk (below_step (bl_ HB) hb); clear HO204; clear HO211; clear HO217; clear BK197; clear BK198; clear BK206; clear HB; have HO204 := n0_; have HO211 := n1_; have HO217 := n2_; have BK197 := n3_; have BK198 := n4_; have BK206 := n5_; have HB := n6_; clear n0_ n1_ n2_ n3_ n4_ n5_ n6_; (try clear hb); (try clear hb2); (try clear hk); (try clear hi); have hcz45_0 : w44.cell? ⟨gb197, 0, none⟩ = some (.int .u64 a0_0) := (blk_cell BK197.out 0).trans rfl; have hcz45_1 : w44.cell? ⟨gb197, 1, none⟩ = some (.int .i64 a0_1) := (blk_cell BK197.out 1).trans rfl; have hcz45_2 : w44.cell? ⟨gb197, 2, none⟩ = some (.slice A0_2 l0_2.length c0_2) := (blk_cell BK197.out 2).trans rfl; have hfz45_0 := blk_frozen BK197.out 0; have hfz45_1 := blk_frozen BK197.out 1; have hfz45_2 := blk_frozen BK197.out 2; have hcz46_0 : w44.cell? ⟨gb198, 0, none⟩ = some (.int .u64 a1_0) := (blk_cell BK198.out 0).trans rfl; have hcz46_1 : w44.cell? ⟨gb198, 1, none⟩ = some (.int .i64 a1_1) := (blk_cell BK198.out 1).trans rfl; have hcz46_2 : w44.cell? ⟨gb198, 2, none⟩ = some (.slice A1_2 l1_2.length c1_2) := (blk_cell BK198.out 2).trans rfl; have hfz46_0 := blk_frozen BK198.out 0; have hfz46_1 := blk_frozen BK198.out 1; have hfz46_2 := blk_frozen BK198.out 2))
                  repeat (go_quiet (first | (go_at_call 11; (with_reducible refine (rillmeterlaw10_ref.calls a0_0 a0_1 (fun k_ => k_ < w.heap.size) _ _ l0_2 t207 t208 t209 _ ?side1 A26.out).mono ?_); (case side1 => exact Kd.V_mk HC0_2.out (Kd.F_below (Kd.C_F Kd.heap_bool HR0_2.out) (bl_ HB))); rintro e w37 ⟨v210, rfl, ho0, hb⟩; have n0_ := Aside0.mk (Kd.R_below (by (with_reducible repeat (first | apply Kd.R_alloc | apply Kd.R_drewN | apply Kd.R_drew)); exact (Kd.R_mono (Kd.R_far (p := ⟨gb206, 2, none⟩) (Kd.R_far (p := ⟨gb206, 1, none⟩) (Kd.R_far (p := ⟨gb206, 0, none⟩) (Kd.R_types HO204.out BK206.out (by decide)) (fun _ hk => hk.2) (.int .u64 t200)) (fun _ hk => hk.2) (.int .i64 t201)) (fun _ hk => hk.2) (.slice Ao25 t202.length co25)) (fun _ h_ => h_.1))) hb); have n1_ := Aside0.mk (Kd.V_lower (Kd.V_mono (ok' := fun k_ => some k_ ≠ (.slice Ao25 t202.length co25 : Value).ownBlock ∧ k_ ≠ gb197 ∧ k_ ≠ gb198 ∧ k_ ≠ gb206) ho0 (fun k_ hk_ => ⟨Or.elim hk_ (fun hs_ => fun e_ => Nat.not_le.2 hs_ (Kd.R_base HO204.out k_ e_.symm)) (fun hn_ => (Kd.fresh' (Kd.R_lt (by (with_reducible repeat (first | apply Kd.R_alloc | apply Kd.R_drewN | apply Kd.R_drew)); exact (Kd.R_mono (Kd.R_far (p := ⟨gb206, 2, none⟩) (Kd.R_far (p := ⟨gb206, 1, none⟩) (Kd.R_far (p := ⟨gb206, 0, none⟩) (Kd.R_types HO204.out BK206.out (by decide)) (fun _ hk => hk.2) (.int .u64 t200)) (fun _ hk => hk.2) (.int .i64 t201)) (fun _ hk => hk.2) (.slice Ao25 t202.length co25)) (fun _ h_ => h_.1)))) k_ hn_)), Or.elim hk_ (fun hs_ => fun e_ => Nat.not_le.2 hs_ (by rw [e_]; exact GW197.out)) (fun hn_ => (Kd.freshB (g := gb197) (o := .cells #[.int .u64 a0_0, .int .i64 a0_1, .slice A0_2 l0_2.length c0_2] 25 (0, 0)) (by (with_reducible repeat (first | refine blk_drewN ?_ _ | refine blk_drew ?_ | refine blk_alloc ?_ _)); refine blk_far ?_ NB197_206.out _; (with_reducible repeat (first | refine blk_drewN ?_ _ | refine blk_drew ?_ | refine blk_alloc ?_ _)); refine blk_far ?_ NB197_206.out _; (with_reducible repeat (first | refine blk_drewN ?_ _ | refine blk_drew ?_ | refine blk_alloc ?_ _)); refine blk_far ?_ NB197_206.out _; (with_reducible repeat (first | refine blk_drewN ?_ _ | refine blk_drew ?_ | refine blk_alloc ?_ _)); exact BK197.out) k_ hn_)), Or.elim hk_ (fun hs_ => fun e_ => Nat.not_le.2 hs_ (by rw [e_]; exact GW198.out)) (fun hn_ => (Kd.freshB (g := gb198) (o := .cells #[.int .u64 a1_0, .int .i64 a1_1, .slice A1_2 l1_2.length c1_2] 25 (0, 0)) (by (with_reducible repeat (first | refine blk_drewN ?_ _ | refine blk_drew ?_ | refine blk_alloc ?_ _)); refine blk_far ?_ NB198_206.out _; (with_reducible repeat (first | refine blk_drewN ?_ _ | refine blk_drew ?_ | refine blk_alloc ?_ _)); refine blk_far ?_ NB198_206.out _; (with_reducible repeat (first | refine blk_drewN ?_ _ | refine blk_drew ?_ | refine blk_alloc ?_ _)); refine blk_far ?_ NB198_206.out _; (with_reducible repeat (first | refine blk_drewN ?_ _ | refine blk_drew ?_ | refine blk_alloc ?_ _)); exact BK198.out) k_ hn_)), Or.elim hk_ (fun hs_ => fun e_ => Nat.not_le.2 hs_ (by rw [e_]; exact GW206.out)) (fun hn_ => (Kd.freshB (g := gb206) (o := .cells #[.int .u64 t200, .int .i64 t201, .slice Ao25 t202.length co25] 25 (0, 0)) (by (with_reducible repeat (first | refine blk_drewN ?_ _ | refine blk_drew ?_ | refine blk_alloc ?_ _)); refine blk_put (cs := #[.int .u64 t200, .int .i64 t201, .slice none 0 0]) ?_ 2 _ rfl; (with_reducible repeat (first | refine blk_drewN ?_ _ | refine blk_drew ?_ | refine blk_alloc ?_ _)); refine blk_put (cs := #[.int .u64 t200, .int .i64 0, .slice none 0 0]) ?_ 1 _ rfl; (with_reducible repeat (first | refine blk_drewN ?_ _ | refine blk_drew ?_ | refine blk_alloc ?_ _)); refine blk_put (cs := #[.int .u64 0, .int .i64 0, .slice none 0 0]) ?_ 0 _ rfl; (with_reducible repeat (first | refine blk_drewN ?_ _ | refine blk_drew ?_ | refine blk_alloc ?_ _)); exact BK206.out) k_ hn_))⟩)) (below_size (bl_ HB))); have n2_ := Aside0.mk (blk_below (g := gb197) (o := .cells #[.int .u64 a0_0, .int .i64 a0_1, .slice A0_2 l0_2.length c0_2] 25 (0, 0)) (by (with_reducible repeat (first | refine blk_drewN ?_ _ | refine blk_drew ?_ | refine blk_alloc ?_ _)); refine blk_far ?_ NB197_206.out _; (with_reducible repeat (first | refine blk_drewN ?_ _ | refine blk_drew ?_ | refine blk_alloc ?_ _)); refine blk_far ?_ NB197_206.out _; (with_reducible repeat (first | refine blk_drewN ?_ _ | refine blk_drew ?_ | refine blk_alloc ?_ _)); refine blk_far ?_ NB197_206.out _; (with_reducible repeat (first | refine blk_drewN ?_ _ | refine blk_drew ?_ | refine blk_alloc ?_ _)); exact BK197.out) hb); have n3_ := Aside0.mk (blk_below (g := gb198) (o := .cells #[.int .u64 a1_0, .int .i64 a1_1, .slice A1_2 l1_2.length c1_2] 25 (0, 0)) (by (with_reducible repeat (first | refine blk_drewN ?_ _ | refine blk_drew ?_ | refine blk_alloc ?_ _)); refine blk_far ?_ NB198_206.out _; (with_reducible repeat (first | refine blk_drewN ?_ _ | refine blk_drew ?_ | refine blk_alloc ?_ _)); refine blk_far ?_ NB198_206.out _; (with_reducible repeat (first | refine blk_drewN ?_ _ | refine blk_drew ?_ | refine blk_alloc ?_ _)); refine blk_far ?_ NB198_206.out _; (with_reducible repeat (first | refine blk_drewN ?_ _ | refine blk_drew ?_ | refine blk_alloc ?_ _)); exact BK198.out) hb); have n4_ := Aside0.mk (blk_below (g := gb206) (o := .cells #[.int .u64 t200, .int .i64 t201, .slice Ao25 t202.length co25] 25 (0, 0)) (by (with_reducible repeat (first | refine blk_drewN ?_ _ | refine blk_drew ?_ | refine blk_alloc ?_ _)); refine blk_put (cs := #[.int .u64 t200, .int .i64 t201, .slice none 0 0]) ?_ 2 _ rfl; (with_reducible repeat (first | refine blk_drewN ?_ _ | refine blk_drew ?_ | refine blk_alloc ?_ _)); refine blk_put (cs := #[.int .u64 t200, .int .i64 0, .slice none 0 0]) ?_ 1 _ rfl; (with_reducible repeat (first | refine blk_drewN ?_ _ | refine blk_drew ?_ | refine blk_alloc ?_ _)); refine blk_put (cs := #[.int .u64 0, .int .i64 0, .slice none 0 0]) ?_ 0 _ rfl; (with_reducible repeat (first | refine blk_drewN ?_ _ | refine blk_drew ?_ | refine blk_alloc ?_ _)); exact BK206.out) hb); have n5_ := Aside0.mk (below_step (bl_ HB) hb); clear HO204; clear BK197; clear BK198; clear BK206; clear HB; have HO204 := n0_; have HO211 := n1_; have BK197 := n2_; have BK198 := n3_; have BK206 := n4_; have HB := n5_; clear n0_ n1_ n2_ n3_ n4_ n5_; (try clear hb); (try clear hb2); (try clear hk); (try clear hi); (try clear ho0); obtain ⟨Ao38, co38, eo38⟩ := Kd.V_slice HO211.out; subst eo38) | (go_at_call 18; (with_reducible refine (rillmeterref10_Right.calls t207 t208 _ _ t209 true _ ?side1 ?side2 A27.out).mono ?_); (case side1 => repeat (first | exact (Kd.V_reads' HO211.out).2.2 | (with_reducible refine Kd.C_alloc ?_ _) | (with_reducible refine Kd.C_drewN ?_ _) | (with_reducible refine Kd.C_drew ?_))); (case side2 => exact (Kd.V_reads' HO211.out).2.1); rintro e w39 ⟨rfl, hb⟩; have n0_ := Aside0.mk (Kd.R_below (by (with_reducible repeat (first | apply Kd.R_alloc | apply Kd.R_drewN | apply Kd.R_drew)); exact HO204.out) hb); have n1_ := Aside0.mk (Kd.V_below (by (with_reducible repeat (first | apply Kd.V_alloc | apply Kd.V_drewN | apply Kd.V_drew)); exact HO211.out) hb); have n2_ := Aside0.mk (blk_below (bk_ BK197) hb); have n3_ := Aside0.mk (blk_below (bk_ BK198) hb); have n4_ := Aside0.mk (blk_below (bk_ BK206) hb); have n5_ := Aside0.mk (below_step (bl_ HB) hb); clear HO204; clear HO211; clear BK197; clear BK198; clear BK206; clear HB; have HO204 := n0_; have HO211 := n1_; have BK197 := n2_; have BK198 := n3_; have BK206 := n4_; have HB := n5_; clear n0_ n1_ n2_ n3_ n4_ n5_; (try clear hb); (try clear hb2); (try clear hk); (try clear hi); have hnb40 := NB198_206.out; have hnc40 := NB206_198.out; have hcz41_0 : w39.cell? ⟨gb198, 0, none⟩ = some (.int .u64 a1_0) := (blk_cell BK198.out 0).trans rfl; have hcz41_1 : w39.cell? ⟨gb198, 1, none⟩ = some (.int .i64 a1_1) := (blk_cell BK198.out 1).trans rfl; have hcz41_2 : w39.cell? ⟨gb198, 2, none⟩ = some (.slice A1_2 l1_2.length c1_2) := (blk_cell BK198.out 2).trans rfl; have hfz41_0 := blk_frozen BK198.out 0; have hfz41_1 := blk_frozen BK198.out 1; have hfz41_2 := blk_frozen BK198.out 2) | (go_at_call 11; (with_reducible refine (rillmeterlaw10_ref.calls a1_0 a1_1 (fun k_ => k_ < w.heap.size) _ _ l1_2 t213 t214 t215 _ ?side1 A29.out).mono ?_); (case side1 => exact Kd.V_mk HC1_2.out (Kd.F_below (Kd.C_F Kd.heap_bool HR1_2.out) (bl_ HB))); rintro e w42 ⟨v216, rfl, ho0, hb⟩; have n0_ := Aside0.mk (Kd.R_below (by (with_reducible repeat (first | apply Kd.R_alloc | apply Kd.R_drewN | apply Kd.R_drew)); exact HO204.out) hb); have n1_ := Aside0.mk (Kd.V_below (by (with_reducible repeat (first | apply Kd.V_alloc | apply Kd.V_drewN | apply Kd.V_drew)); exact HO211.out) hb); have n2_ := Aside0.mk (Kd.V_lower (Kd.V_mono (ok' := fun k_ => some k_ ≠ (.slice Ao25 t202.length co25 : Value).ownBlock ∧ k_ ≠ gb197 ∧ k_ ≠ gb198 ∧ k_ ≠ gb206) ho0 (fun k_ hk_ => ⟨Or.elim hk_ (fun hs_ => fun e_ => Nat.not_le.2 hs_ (Kd.R_base HO204.out k_ e_.symm)) (fun hn_ => (Kd.fresh' (Kd.R_lt (by (with_reducible repeat (first | apply Kd.R_alloc | apply Kd.R_drewN | apply Kd.R_drew)); exact HO204.out)) k_ hn_)), Or.elim hk_ (fun hs_ => fun e_ => Nat.not_le.2 hs_ (by rw [e_]; exact GW197.out)) (fun hn_ => (Kd.freshB (g := gb197) (o := .cells #[.int .u64 a0_0, .int .i64 a0_1, .slice A0_2 l0_2.length c0_2] 25 (0, 0)) (bk_ BK197) k_ hn_)), Or.elim hk_ (fun hs_ => fun e_ => Nat.not_le.2 hs_ (by rw [e_]; exact GW198.out)) (fun hn_ => (Kd.freshB (g := gb198) (o := .cells #[.int .u64 a1_0, .int .i64 a1_1, .slice A1_2 l1_2.length c1_2] 25 (0, 0)) (bk_ BK198) k_ hn_)), Or.elim hk_ (fun hs_ => fun e_ => Nat.not_le.2 hs_ (by rw [e_]; exact GW206.out)) (fun hn_ => (Kd.freshB (g := gb206) (o := .cells #[.int .u64 t200, .int .i64 t201, .slice Ao25 t202.length co25] 25 (0, 0)) (bk_ BK206) k_ hn_))⟩)) (below_size (bl_ HB))); have n3_ := Aside0.mk (blk_below (bk_ BK197) hb); have n4_ := Aside0.mk (blk_below (bk_ BK198) hb); have n5_ := Aside0.mk (blk_below (bk_ BK206) hb); have n6_ := Aside0.mk (below_step (bl_ HB) hb); clear HO204; clear HO211; clear BK197; clear BK198; clear BK206; clear HB; have HO204 := n0_; have HO211 := n1_; have HO217 := n2_; have BK197 := n3_; have BK198 := n4_; have BK206 := n5_; have HB := n6_; clear n0_ n1_ n2_ n3_ n4_ n5_ n6_; (try clear hb); (try clear hb2); (try clear hk); (try clear hi); (try clear ho0); obtain ⟨Ao43, co43, eo43⟩ := Kd.V_slice HO217.out; subst eo43) | (go_at_call 18; (with_reducible refine (rillmeterref10_Right.calls t213 t214 _ _ t215 true _ ?side1 ?side2 A30.out).mono ?_); (case side1 => repeat (first | exact (Kd.V_reads' HO217.out).2.2 | (with_reducible refine Kd.C_alloc ?_ _) | (with_reducible refine Kd.C_drewN ?_ _) | (with_reducible refine Kd.C_drew ?_))); (case side2 => exact (Kd.V_reads' HO217.out).2.1); rintro e w44 ⟨rfl, hb⟩; have n0_ := Aside0.mk (Kd.R_below (by (with_reducible repeat (first | apply Kd.R_alloc | apply Kd.R_drewN | apply Kd.R_drew)); exact HO204.out) hb); have n1_ := Aside0.mk (Kd.V_below (by (with_reducible repeat (first | apply Kd.V_alloc | apply Kd.V_drewN | apply Kd.V_drew)); exact HO211.out) hb); have n2_ := Aside0.mk (Kd.V_below (by (with_reducible repeat (first | apply Kd.V_alloc | apply Kd.V_drewN | apply Kd.V_drew)); exact HO217.out) hb); have n3_ := Aside0.mk (blk_below (bk_ BK197) hb); have n4_ := Aside0.mk (blk_below (bk_ BK198) hb); have n5_ := Aside0.mk (blk_below (bk_ BK206) hb); have n6_ := Aside0.mk (below_step (bl_ HB) hb); clear HO204; clear HO211; clear HO217; clear BK197; clear BK198; clear BK206; clear HB; have HO204 := n0_; have HO211 := n1_; have HO217 := n2_; have BK197 := n3_; have BK198 := n4_; have BK206 := n5_; have HB := n6_; clear n0_ n1_ n2_ n3_ n4_ n5_ n6_; (try clear hb); (try clear hb2); (try clear hk); (try clear hi); have hcz45_0 : w44.cell? ⟨gb197, 0, none⟩ = some (.int .u64 a0_0) := (blk_cell BK197.out 0).trans rfl; have hcz45_1 : w44.cell? ⟨gb197, 1, none⟩ = some (.int .i64 a0_1) := (blk_cell BK197.out 1).trans rfl; have hcz45_2 : w44.cell? ⟨gb197, 2, none⟩ = some (.slice A0_2 l0_2.length c0_2) := (blk_cell BK197.out 2).trans rfl; have hfz45_0 := blk_frozen BK197.out 0; have hfz45_1 := blk_frozen BK197.out 1; have hfz45_2 := blk_frozen BK197.out 2; have hcz46_0 : w44.cell? ⟨gb198, 0, none⟩ = some (.int .u64 a1_0) := (blk_cell BK198.out 0).trans rfl; have hcz46_1 : w44.cell? ⟨gb198, 1, none⟩ = some (.int .i64 a1_1) := (blk_cell BK198.out 1).trans rfl; have hcz46_2 : w44.cell? ⟨gb198, 2, none⟩ = some (.slice A1_2 l1_2.length c1_2) := (blk_cell BK198.out 2).trans rfl; have hfz46_0 := blk_frozen BK198.out 0; have hfz46_1 := blk_frozen BK198.out 1; have hfz46_2 := blk_frozen BK198.out 2)); try go_wp2_with (first | (go_at_call 11; (with_reducible refine (rillmeterlaw10_ref.calls a0_0 a0_1 (fun k_ => k_ < w.heap.size) _ _ l0_2 t207 t208 t209 _ ?side1 A26.out).mono ?_); (case side1 => exact Kd.V_mk HC0_2.out (Kd.F_below (Kd.C_F Kd.heap_bool HR0_2.out) (bl_ HB))); rintro e w37 ⟨v210, rfl, ho0, hb⟩; have n0_ := Aside0.mk (Kd.R_below (by (with_reducible repeat (first | apply Kd.R_alloc | apply Kd.R_drewN | apply Kd.R_drew)); exact (Kd.R_mono (Kd.R_far (p := ⟨gb206, 2, none⟩) (Kd.R_far (p := ⟨gb206, 1, none⟩) (Kd.R_far (p := ⟨gb206, 0, none⟩) (Kd.R_types HO204.out BK206.out (by decide)) (fun _ hk => hk.2) (.int .u64 t200)) (fun _ hk => hk.2) (.int .i64 t201)) (fun _ hk => hk.2) (.slice Ao25 t202.length co25)) (fun _ h_ => h_.1))) hb); have n1_ := Aside0.mk (Kd.V_lower (Kd.V_mono (ok' := fun k_ => some k_ ≠ (.slice Ao25 t202.length co25 : Value).ownBlock ∧ k_ ≠ gb197 ∧ k_ ≠ gb198 ∧ k_ ≠ gb206) ho0 (fun k_ hk_ => ⟨Or.elim hk_ (fun hs_ => fun e_ => Nat.not_le.2 hs_ (Kd.R_base HO204.out k_ e_.symm)) (fun hn_ => (Kd.fresh' (Kd.R_lt (by (with_reducible repeat (first | apply Kd.R_alloc | apply Kd.R_drewN | apply Kd.R_drew)); exact (Kd.R_mono (Kd.R_far (p := ⟨gb206, 2, none⟩) (Kd.R_far (p := ⟨gb206, 1, none⟩) (Kd.R_far (p := ⟨gb206, 0, none⟩) (Kd.R_types HO204.out BK206.out (by decide)) (fun _ hk => hk.2) (.int .u64 t200)) (fun _ hk => hk.2) (.int .i64 t201)) (fun _ hk => hk.2) (.slice Ao25 t202.length co25)) (fun _ h_ => h_.1)))) k_ hn_)), Or.elim hk_ (fun hs_ => fun e_ => Nat.not_le.2 hs_ (by rw [e_]; exact GW197.out)) (fun hn_ => (Kd.freshB (g := gb197) (o := .cells #[.int .u64 a0_0, .int .i64 a0_1, .slice A0_2 l0_2.length c0_2] 25 (0, 0)) (by (with_reducible repeat (first | refine blk_drewN ?_ _ | refine blk_drew ?_ | refine blk_alloc ?_ _)); refine blk_far ?_ NB197_206.out _; (with_reducible repeat (first | refine blk_drewN ?_ _ | refine blk_drew ?_ | refine blk_alloc ?_ _)); refine blk_far ?_ NB197_206.out _; (with_reducible repeat (first | refine blk_drewN ?_ _ | refine blk_drew ?_ | refine blk_alloc ?_ _)); refine blk_far ?_ NB197_206.out _; (with_reducible repeat (first | refine blk_drewN ?_ _ | refine blk_drew ?_ | refine blk_alloc ?_ _)); exact BK197.out) k_ hn_)), Or.elim hk_ (fun hs_ => fun e_ => Nat.not_le.2 hs_ (by rw [e_]; exact GW198.out)) (fun hn_ => (Kd.freshB (g := gb198) (o := .cells #[.int .u64 a1_0, .int .i64 a1_1, .slice A1_2 l1_2.length c1_2] 25 (0, 0)) (by (with_reducible repeat (first | refine blk_drewN ?_ _ | refine blk_drew ?_ | refine blk_alloc ?_ _)); refine blk_far ?_ NB198_206.out _; (with_reducible repeat (first | refine blk_drewN ?_ _ | refine blk_drew ?_ | refine blk_alloc ?_ _)); refine blk_far ?_ NB198_206.out _; (with_reducible repeat (first | refine blk_drewN ?_ _ | refine blk_drew ?_ | refine blk_alloc ?_ _)); refine blk_far ?_ NB198_206.out _; (with_reducible repeat (first | refine blk_drewN ?_ _ | refine blk_drew ?_ | refine blk_alloc ?_ _)); exact BK198.out) k_ hn_)), Or.elim hk_ (fun hs_ => fun e_ => Nat.not_le.2 hs_ (by rw [e_]; exact GW206.out)) (fun hn_ => (Kd.freshB (g := gb206) (o := .cells #[.int .u64 t200, .int .i64 t201, .slice Ao25 t202.length co25] 25 (0, 0)) (by (with_reducible repeat (first | refine blk_drewN ?_ _ | refine blk_drew ?_ | refine blk_alloc ?_ _)); refine blk_put (cs := #[.int .u64 t200, .int .i64 t201, .slice none 0 0]) ?_ 2 _ rfl; (with_reducible repeat (first | refine blk_drewN ?_ _ | refine blk_drew ?_ | refine blk_alloc ?_ _)); refine blk_put (cs := #[.int .u64 t200, .int .i64 0, .slice none 0 0]) ?_ 1 _ rfl; (with_reducible repeat (first | refine blk_drewN ?_ _ | refine blk_drew ?_ | refine blk_alloc ?_ _)); refine blk_put (cs := #[.int .u64 0, .int .i64 0, .slice none 0 0]) ?_ 0 _ rfl; (with_reducible repeat (first | refine blk_drewN ?_ _ | refine blk_drew ?_ | refine blk_alloc ?_ _)); exact BK206.out) k_ hn_))⟩)) (below_size (bl_ HB))); have n2_ := Aside0.mk (blk_below (g := gb197) (o := .cells #[.int .u64 a0_0, .int .i64 a0_1, .slice A0_2 l0_2.length c0_2] 25 (0, 0)) (by (with_reducible repeat (first | refine blk_drewN ?_ _ | refine blk_drew ?_ | refine blk_alloc ?_ _)); refine blk_far ?_ NB197_206.out _; (with_reducible repeat (first | refine blk_drewN ?_ _ | refine blk_drew ?_ | refine blk_alloc ?_ _)); refine blk_far ?_ NB197_206.out _; (with_reducible repeat (first | refine blk_drewN ?_ _ | refine blk_drew ?_ | refine blk_alloc ?_ _)); refine blk_far ?_ NB197_206.out _; (with_reducible repeat (first | refine blk_drewN ?_ _ | refine blk_drew ?_ | refine blk_alloc ?_ _)); exact BK197.out) hb); have n3_ := Aside0.mk (blk_below (g := gb198) (o := .cells #[.int .u64 a1_0, .int .i64 a1_1, .slice A1_2 l1_2.length c1_2] 25 (0, 0)) (by (with_reducible repeat (first | refine blk_drewN ?_ _ | refine blk_drew ?_ | refine blk_alloc ?_ _)); refine blk_far ?_ NB198_206.out _; (with_reducible repeat (first | refine blk_drewN ?_ _ | refine blk_drew ?_ | refine blk_alloc ?_ _)); refine blk_far ?_ NB198_206.out _; (with_reducible repeat (first | refine blk_drewN ?_ _ | refine blk_drew ?_ | refine blk_alloc ?_ _)); refine blk_far ?_ NB198_206.out _; (with_reducible repeat (first | refine blk_drewN ?_ _ | refine blk_drew ?_ | refine blk_alloc ?_ _)); exact BK198.out) hb); have n4_ := Aside0.mk (blk_below (g := gb206) (o := .cells #[.int .u64 t200, .int .i64 t201, .slice Ao25 t202.length co25] 25 (0, 0)) (by (with_reducible repeat (first | refine blk_drewN ?_ _ | refine blk_drew ?_ | refine blk_alloc ?_ _)); refine blk_put (cs := #[.int .u64 t200, .int .i64 t201, .slice none 0 0]) ?_ 2 _ rfl; (with_reducible repeat (first | refine blk_drewN ?_ _ | refine blk_drew ?_ | refine blk_alloc ?_ _)); refine blk_put (cs := #[.int .u64 t200, .int .i64 0, .slice none 0 0]) ?_ 1 _ rfl; (with_reducible repeat (first | refine blk_drewN ?_ _ | refine blk_drew ?_ | refine blk_alloc ?_ _)); refine blk_put (cs := #[.int .u64 0, .int .i64 0, .slice none 0 0]) ?_ 0 _ rfl; (with_reducible repeat (first | refine blk_drewN ?_ _ | refine blk_drew ?_ | refine blk_alloc ?_ _)); exact BK206.out) hb); have n5_ := Aside0.mk (below_step (bl_ HB) hb); clear HO204; clear BK197; clear BK198; clear BK206; clear HB; have HO204 := n0_; have HO211 := n1_; have BK197 := n2_; have BK198 := n3_; have BK206 := n4_; have HB := n5_; clear n0_ n1_ n2_ n3_ n4_ n5_; (try clear hb); (try clear hb2); (try clear hk); (try clear hi); (try clear ho0); obtain ⟨Ao38, co38, eo38⟩ := Kd.V_slice HO211.out; subst eo38) | (go_at_call 18; (with_reducible refine (rillmeterref10_Right.calls t207 t208 _ _ t209 true _ ?side1 ?side2 A27.out).mono ?_); (case side1 => repeat (first | exact (Kd.V_reads' HO211.out).2.2 | (with_reducible refine Kd.C_alloc ?_ _) | (with_reducible refine Kd.C_drewN ?_ _) | (with_reducible refine Kd.C_drew ?_))); (case side2 => exact (Kd.V_reads' HO211.out).2.1); rintro e w39 ⟨rfl, hb⟩; have n0_ := Aside0.mk (Kd.R_below (by (with_reducible repeat (first | apply Kd.R_alloc | apply Kd.R_drewN | apply Kd.R_drew)); exact HO204.out) hb); have n1_ := Aside0.mk (Kd.V_below (by (with_reducible repeat (first | apply Kd.V_alloc | apply Kd.V_drewN | apply Kd.V_drew)); exact HO211.out) hb); have n2_ := Aside0.mk (blk_below (bk_ BK197) hb); have n3_ := Aside0.mk (blk_below (bk_ BK198) hb); have n4_ := Aside0.mk (blk_below (bk_ BK206) hb); have n5_ := Aside0.mk (below_step (bl_ HB) hb); clear HO204; clear HO211; clear BK197; clear BK198; clear BK206; clear HB; have HO204 := n0_; have HO211 := n1_; have BK197 := n2_; have BK198 := n3_; have BK206 := n4_; have HB := n5_; clear n0_ n1_ n2_ n3_ n4_ n5_; (try clear hb); (try clear hb2); (try clear hk); (try clear hi); have hnb40 := NB198_206.out; have hnc40 := NB206_198.out; have hcz41_0 : w39.cell? ⟨gb198, 0, none⟩ = some (.int .u64 a1_0) := (blk_cell BK198.out 0).trans rfl; have hcz41_1 : w39.cell? ⟨gb198, 1, none⟩ = some (.int .i64 a1_1) := (blk_cell BK198.out 1).trans rfl; have hcz41_2 : w39.cell? ⟨gb198, 2, none⟩ = some (.slice A1_2 l1_2.length c1_2) := (blk_cell BK198.out 2).trans rfl; have hfz41_0 := blk_frozen BK198.out 0; have hfz41_1 := blk_frozen BK198.out 1; have hfz41_2 := blk_frozen BK198.out 2) | (go_at_call 11; (with_reducible refine (rillmeterlaw10_ref.calls a1_0 a1_1 (fun k_ => k_ < w.heap.size) _ _ l1_2 t213 t214 t215 _ ?side1 A29.out).mono ?_); (case side1 => exact Kd.V_mk HC1_2.out (Kd.F_below (Kd.C_F Kd.heap_bool HR1_2.out) (bl_ HB))); rintro e w42 ⟨v216, rfl, ho0, hb⟩; have n0_ := Aside0.mk (Kd.R_below (by (with_reducible repeat (first | apply Kd.R_alloc | apply Kd.R_drewN | apply Kd.R_drew)); exact HO204.out) hb); have n1_ := Aside0.mk (Kd.V_below (by (with_reducible repeat (first | apply Kd.V_alloc | apply Kd.V_drewN | apply Kd.V_drew)); exact HO211.out) hb); have n2_ := Aside0.mk (Kd.V_lower (Kd.V_mono (ok' := fun k_ => some k_ ≠ (.slice Ao25 t202.length co25 : Value).ownBlock ∧ k_ ≠ gb197 ∧ k_ ≠ gb198 ∧ k_ ≠ gb206) ho0 (fun k_ hk_ => ⟨Or.elim hk_ (fun hs_ => fun e_ => Nat.not_le.2 hs_ (Kd.R_base HO204.out k_ e_.symm)) (fun hn_ => (Kd.fresh' (Kd.R_lt (by (with_reducible repeat (first | apply Kd.R_alloc | apply Kd.R_drewN | apply Kd.R_drew)); exact HO204.out)) k_ hn_)), Or.elim hk_ (fun hs_ => fun e_ => Nat.not_le.2 hs_ (by rw [e_]; exact GW197.out)) (fun hn_ => (Kd.freshB (g := gb197) (o := .cells #[.int .u64 a0_0, .int .i64 a0_1, .slice A0_2 l0_2.length c0_2] 25 (0, 0)) (bk_ BK197) k_ hn_)), Or.elim hk_ (fun hs_ => fun e_ => Nat.not_le.2 hs_ (by rw [e_]; exact GW198.out)) (fun hn_ => (Kd.freshB (g := gb198) (o := .cells #[.int .u64 a1_0, .int .i64 a1_1, .slice A1_2 l1_2.length c1_2] 25 (0, 0)) (bk_ BK198) k_ hn_)), Or.elim hk_ (fun hs_ => fun e_ => Nat.not_le.2 hs_ (by rw [e_]; exact GW206.out)) (fun hn_ => (Kd.freshB (g := gb206) (o := .cells #[.int .u64 t200, .int .i64 t201, .slice Ao25 t202.length co25] 25 (0, 0)) (bk_ BK206) k_ hn_))⟩)) (below_size (bl_ HB))); have n3_ := Aside0.mk (blk_below (bk_ BK197) hb); have n4_ := Aside0.mk (blk_below (bk_ BK198) hb); have n5_ := Aside0.mk (blk_below (bk_ BK206) hb); have n6_ := Aside0.mk (below_step (bl_ HB) hb); clear HO204; clear HO211; clear BK197; clear BK198; clear BK206; clear HB; have HO204 := n0_; have HO211 := n1_; have HO217 := n2_; have BK197 := n3_; have BK198 := n4_; have BK206 := n5_; have HB := n6_; clear n0_ n1_ n2_ n3_ n4_ n5_ n6_; (try clear hb); (try clear hb2); (try clear hk); (try clear hi); (try clear ho0); obtain ⟨Ao43, co43, eo43⟩ := Kd.V_slice HO217.out; subst eo43) | (go_at_call 18; (with_reducible refine (rillmeterref10_Right.calls t213 t214 _ _ t215 true _ ?side1 ?side2 A30.out).mono ?_); (case side1 => repeat (first | exact (Kd.V_reads' HO217.out).2.2 | (with_reducible refine Kd.C_alloc ?_ _) | (with_reducible refine Kd.C_drewN ?_ _) | (with_reducible refine Kd.C_drew ?_))); (case side2 => exact (Kd.V_reads' HO217.out).2.1); rintro e w44 ⟨rfl, hb⟩; have n0_ := Aside0.mk (Kd.R_below (by (with_reducible repeat (first | apply Kd.R_alloc | apply Kd.R_drewN | apply Kd.R_drew)); exact HO204.out) hb); have n1_ := Aside0.mk (Kd.V_below (by (with_reducible repeat (first | apply Kd.V_alloc | apply Kd.V_drewN | apply Kd.V_drew)); exact HO211.out) hb); have n2_ := Aside0.mk (Kd.V_below (by (with_reducible repeat (first | apply Kd.V_alloc | apply Kd.V_drewN | apply Kd.V_drew)); exact HO217.out) hb); have n3_ := Aside0.mk (blk_below (bk_ BK197) hb); have n4_ := Aside0.mk (blk_below (bk_ BK198) hb); have n5_ := Aside0.mk (blk_below (bk_ BK206) hb); have n6_ := Aside0.mk (below_step (bl_ HB) hb); clear HO204; clear HO211; clear HO217; clear BK197; clear BK198; clear BK206; clear HB; have HO204 := n0_; have HO211 := n1_; have HO217 := n2_; have BK197 := n3_; have BK198 := n4_; have BK206 := n5_; have HB := n6_; clear n0_ n1_ n2_ n3_ n4_ n5_ n6_; (try clear hb); (try clear hb2); (try clear hk); (try clear hi); have hcz45_0 : w44.cell? ⟨gb197, 0, none⟩ = some (.int .u64 a0_0) := (blk_cell BK197.out 0).trans rfl; have hcz45_1 : w44.cell? ⟨gb197, 1, none⟩ = some (.int .i64 a0_1) := (blk_cell BK197.out 1).trans rfl; have hcz45_2 : w44.cell? ⟨gb197, 2, none⟩ = some (.slice A0_2 l0_2.length c0_2) := (blk_cell BK197.out 2).trans rfl; have hfz45_0 := blk_frozen BK197.out 0; have hfz45_1 := blk_frozen BK197.out 1; have hfz45_2 := blk_frozen BK197.out 2; have hcz46_0 : w44.cell? ⟨gb198, 0, none⟩ = some (.int .u64 a1_0) := (blk_cell BK198.out 0).trans rfl; have hcz46_1 : w44.cell? ⟨gb198, 1, none⟩ = some (.int .i64 a1_1) := (blk_cell BK198.out 1).trans rfl; have hcz46_2 : w44.cell? ⟨gb198, 2, none⟩ = some (.slice A1_2 l1_2.length c1_2) := (blk_cell BK198.out 2).trans rfl; have hfz46_0 := blk_frozen BK198.out 0; have hfz46_1 := blk_frozen BK198.out 1; have hfz46_2 := blk_frozen BK198.out 2)))
                  go_meet
                  case rel => exact ⟨_, (((l0_2.length : Int) != (l1_2.length : Int))), (by first | rfl | (simp; done) | (simp [*]; done)), H', ⟨by have := HJ2.out; first | omega | exact Nat.le_refl _⟩, ⟨by (with_reducible repeat (first | apply Kd.R_alloc | apply Kd.R_drewN | apply Kd.R_drew)); exact HO204.out⟩, ⟨bk_ BK197⟩, ⟨bk_ BK198⟩, ⟨bk_ BK206⟩, ⟨bl_ HB⟩⟩
                · rw [if_neg c33] at H
                  have c33b0 : (a0_1 == a1_1) = false := beq_eq_false_iff_ne.mpr c33
                  have c33b1 : (a0_1 != a1_1) = true := bne_iff_ne.mpr c33
                  have H' := Aside0.mk H
                  clear H
                  have hnb47 := NB197_198.out
                  have hnc47 := NB198_197.out
                  have hnb48 := NB197_206.out
                  have hnc48 := NB206_197.out
                  have hcz49_0 : w21.cell? ⟨gb197, 0, none⟩ = some (.int .u64 a0_0) := (blk_cell BK197.out 0).trans rfl
                  have hcz49_1 : w21.cell? ⟨gb197, 1, none⟩ = some (.int .i64 a0_1) := (blk_cell BK197.out 1).trans rfl
                  have hcz49_2 : w21.cell? ⟨gb197, 2, none⟩ = some (.slice A0_2 l0_2.length c0_2) := (blk_cell BK197.out 2).trans rfl
                  have hfz49_0 := blk_frozen BK197.out 0
                  have hfz49_1 := blk_frozen BK197.out 1
                  have hfz49_2 := blk_frozen BK197.out 2
                  go_wp2_with (first | (go_at_call 11; (with_reducible refine (rillmeterlaw10_ref.calls a0_0 a0_1 (fun k_ => k_ < w.heap.size) _ _ l0_2 t207 t208 t209 _ ?side1 A26.out).mono ?_); (case side1 => exact Kd.V_mk HC0_2.out (Kd.F_below (Kd.C_F Kd.heap_bool HR0_2.out) (bl_ HB))); rintro e w50 ⟨v210, rfl, ho0, hb⟩; have n0_ := Aside0.mk (Kd.R_below (by (with_reducible repeat (first | apply Kd.R_alloc | apply Kd.R_drewN | apply Kd.R_drew)); exact (Kd.R_mono (Kd.R_far (p := ⟨gb206, 2, none⟩) (Kd.R_far (p := ⟨gb206, 1, none⟩) (Kd.R_far (p := ⟨gb206, 0, none⟩) (Kd.R_types HO204.out BK206.out (by decide)) (fun _ hk => hk.2) (.int .u64 t200)) (fun _ hk => hk.2) (.int .i64 t201)) (fun _ hk => hk.2) (.slice Ao25 t202.length co25)) (fun _ h_ => h_.1))) hb); have n1_ := Aside0.mk (Kd.V_lower (Kd.V_mono (ok' := fun k_ => some k_ ≠ (.slice Ao25 t202.length co25 : Value).ownBlock ∧ k_ ≠ gb197 ∧ k_ ≠ gb198 ∧ k_ ≠ gb206) ho0 (fun k_ hk_ => ⟨Or.elim hk_ (fun hs_ => fun e_ => Nat.not_le.2 hs_ (Kd.R_base HO204.out k_ e_.symm)) (fun hn_ => (Kd.fresh' (Kd.R_lt (by (with_reducible repeat (first | apply Kd.R_alloc | apply Kd.R_drewN | apply Kd.R_drew)); exact (Kd.R_mono (Kd.R_far (p := ⟨gb206, 2, none⟩) (Kd.R_far (p := ⟨gb206, 1, none⟩) (Kd.R_far (p := ⟨gb206, 0, none⟩) (Kd.R_types HO204.out BK206.out (by decide)) (fun _ hk => hk.2) (.int .u64 t200)) (fun _ hk => hk.2) (.int .i64 t201)) (fun _ hk => hk.2) (.slice Ao25 t202.length co25)) (fun _ h_ => h_.1)))) k_ hn_)), Or.elim hk_ (fun hs_ => fun e_ => Nat.not_le.2 hs_ (by rw [e_]; exact GW197.out)) (fun hn_ => (Kd.freshB (g := gb197) (o := .cells #[.int .u64 a0_0, .int .i64 a0_1, .slice A0_2 l0_2.length c0_2] 25 (0, 0)) (by (with_reducible repeat (first | refine blk_drewN ?_ _ | refine blk_drew ?_ | refine blk_alloc ?_ _)); refine blk_far ?_ NB197_206.out _; (with_reducible repeat (first | refine blk_drewN ?_ _ | refine blk_drew ?_ | refine blk_alloc ?_ _)); refine blk_far ?_ NB197_206.out _; (with_reducible repeat (first | refine blk_drewN ?_ _ | refine blk_drew ?_ | refine blk_alloc ?_ _)); refine blk_far ?_ NB197_206.out _; (with_reducible repeat (first | refine blk_drewN ?_ _ | refine blk_drew ?_ | refine blk_alloc ?_ _)); exact BK197.out) k_ hn_)), Or.elim hk_ (fun hs_ => fun e_ => Nat.not_le.2 hs_ (by rw [e_]; exact GW198.out)) (fun hn_ => (Kd.freshB (g := gb198) (o := .cells #[.int .u64 a1_0, .int .i64 a1_1, .slice A1_2 l1_2.length c1_2] 25 (0, 0)) (by (with_reducible repeat (first | refine blk_drewN ?_ _ | refine blk_drew ?_ | refine blk_alloc ?_ _)); refine blk_far ?_ NB198_206.out _; (with_reducible repeat (first | refine blk_drewN ?_ _ | refine blk_drew ?_ | refine blk_alloc ?_ _)); refine blk_far ?_ NB198_206.out _; (with_reducible repeat (first | refine blk_drewN ?_ _ | refine blk_drew ?_ | refine blk_alloc ?_ _)); refine blk_far ?_ NB198_206.out _; (with_reducible repeat (first | refine blk_drewN ?_ _ | refine blk_drew ?_ | refine blk_alloc ?_ _)); exact BK198.out) k_ hn_)), Or.elim hk_ (fun hs_ => fun e_ => Nat.not_le.2 hs_ (by rw [e_]; exact GW206.out)) (fun hn_ => (Kd.freshB (g := gb206) (o := .cells #[.int .u64 t200, .int .i64 t201, .slice Ao25 t202.length co25] 25 (0, 0)) (by (with_reducible repeat (first | refine blk_drewN ?_ _ | refine blk_drew ?_ | refine blk_alloc ?_ _)); refine blk_put (cs := #[.int .u64 t200, .int .i64 t201, .slice none 0 0]) ?_ 2 _ rfl; (with_reducible repeat (first | refine blk_drewN ?_ _ | refine blk_drew ?_ | refine blk_alloc ?_ _)); refine blk_put (cs := #[.int .u64 t200, .int .i64 0, .slice none 0 0]) ?_ 1 _ rfl; (with_reducible repeat (first | refine blk_drewN ?_ _ | refine blk_drew ?_ | refine blk_alloc ?_ _)); refine blk_put (cs := #[.int .u64 0, .int .i64 0, .slice none 0 0]) ?_ 0 _ rfl; (with_reducible repeat (first | refine blk_drewN ?_ _ | refine blk_drew ?_ | refine blk_alloc ?_ _)); exact BK206.out) k_ hn_))⟩)) (below_size (bl_ HB))); have n2_ := Aside0.mk (blk_below (g := gb197) (o := .cells #[.int .u64 a0_0, .int .i64 a0_1, .slice A0_2 l0_2.length c0_2] 25 (0, 0)) (by (with_reducible repeat (first | refine blk_drewN ?_ _ | refine blk_drew ?_ | refine blk_alloc ?_ _)); refine blk_far ?_ NB197_206.out _; (with_reducible repeat (first | refine blk_drewN ?_ _ | refine blk_drew ?_ | refine blk_alloc ?_ _)); refine blk_far ?_ NB197_206.out _; (with_reducible repeat (first | refine blk_drewN ?_ _ | refine blk_drew ?_ | refine blk_alloc ?_ _)); refine blk_far ?_ NB197_206.out _; (with_reducible repeat (first | refine blk_drewN ?_ _ | refine blk_drew ?_ | refine blk_alloc ?_ _)); exact BK197.out) hb); have n3_ := Aside0.mk (blk_below (g := gb198) (o := .cells #[.int .u64 a1_0, .int .i64 a1_1, .slice A1_2 l1_2.length c1_2] 25 (0, 0)) (by (with_reducible repeat (first | refine blk_drewN ?_ _ | refine blk_drew ?_ | refine blk_alloc ?_ _)); refine blk_far ?_ NB198_206.out _; (with_reducible repeat (first | refine blk_drewN ?_ _ | refine blk_drew ?_ | refine blk_alloc ?_ _)); refine blk_far ?_ NB198_206.out _; (with_reducible repeat (first | refine blk_drewN ?_ _ | refine blk_drew ?_ | refine blk_alloc ?_ _)); refine blk_far ?_ NB198_206.out _; (with_reducible repeat (first | refine blk_drewN ?_ _ | refine blk_drew ?_ | refine blk_alloc ?_ _)); exact BK198.out) hb); have n4_ := Aside0.mk (blk_below (g := gb206) (o := .cells #[.int .u64 t200, .int .i64 t201, .slice Ao25 t202.length co25] 25 (0, 0)) (by (with_reducible repeat (first | refine blk_drewN ?_ _ | refine blk_drew ?_ | refine blk_alloc ?_ _)); refine blk_put (cs := #[.int .u64 t200, .int .i64 t201, .slice none 0 0]) ?_ 2 _ rfl; (with_reducible repeat (first | refine blk_drewN ?_ _ | refine blk_drew ?_ | refine blk_alloc ?_ _)); refine blk_put (cs := #[.int .u64 t200, .int .i64 0, .slice none 0 0]) ?_ 1 _ rfl; (with_reducible repeat (first | refine blk_drewN ?_ _ | refine blk_drew ?_ | refine blk_alloc ?_ _)); refine blk_put (cs := #[.int .u64 0, .int .i64 0, .slice none 0 0]) ?_ 0 _ rfl; (with_reducible repeat (first | refine blk_drewN ?_ _ | refine blk_drew ?_ | refine blk_alloc ?_ _)); exact BK206.out) hb); have n5_ := Aside0.mk (below_step (bl_ HB) hb); clear HO204; clear BK197; clear BK198; clear BK206; clear HB; have HO204 := n0_; have HO211 := n1_; have BK197 := n2_; have BK198 := n3_; have BK206 := n4_; have HB := n5_; clear n0_ n1_ n2_ n3_ n4_ n5_; (try clear hb); (try clear hb2); (try clear hk); (try clear hi); (try clear ho0); obtain ⟨Ao51, co51, eo51⟩ := Kd.V_slice HO211.out; subst eo51) | (go_at_call 18; (with_reducible refine (rillmeterref10_Right.calls t207 t208 _ _ t209 true _ ?side1 ?side2 A27.out).mono ?_); (case side1 => repeat (first | exact (Kd.V_reads' HO211.out).2.2 | (with_reducible refine Kd.C_alloc ?_ _) | (with_reducible refine Kd.C_drewN ?_ _) | (with_reducible refine Kd.C_drew ?_))); (case side2 => exact (Kd.V_reads' HO211.out).2.1); rintro e w52 ⟨rfl, hb⟩; have n0_ := Aside0.mk (Kd.R_below (by (with_reducible repeat (first | apply Kd.R_alloc | apply Kd.R_drewN | apply Kd.R_drew)); exact HO204.out) hb); have n1_ := Aside0.mk (Kd.V_below (by (with_reducible repeat (first | apply Kd.V_alloc | apply Kd.V_drewN | apply Kd.V_drew)); exact HO211.out) hb); have n2_ := Aside0.mk (blk_below (bk_ BK197) hb); have n3_ := Aside0.mk (blk_below (bk_ BK198) hb); have n4_ := Aside0.mk (blk_below (bk_ BK206) hb); have n5_ := Aside0.mk (below_step (bl_ HB) hb); clear HO204; clear HO211; clear BK197; clear BK198; clear BK206; clear HB; have HO204 := n0_; have HO211 := n1_; have BK197 := n2_; have BK198 := n3_; have BK206 := n4_; have HB := n5_; clear n0_ n1_ n2_ n3_ n4_ n5_; (try clear hb); (try clear hb2); (try clear hk); (try clear hi); have hnb53 := NB198_206.out; have hnc53 := NB206_198.out; have hcz54_0 : w52.cell? ⟨gb198, 0, none⟩ = some (.int .u64 a1_0) := (blk_cell BK198.out 0).trans rfl; have hcz54_1 : w52.cell? ⟨gb198, 1, none⟩ = some (.int .i64 a1_1) := (blk_cell BK198.out 1).trans rfl; have hcz54_2 : w52.cell? ⟨gb198, 2, none⟩ = some (.slice A1_2 l1_2.length c1_2) := (blk_cell BK198.out 2).trans rfl; have hfz54_0 := blk_frozen BK198.out 0; have hfz54_1 := blk_frozen BK198.out 1; have hfz54_2 := blk_frozen BK198.out 2) | (go_at_call 11; (with_reducible refine (rillmeterlaw10_ref.calls a1_0 a1_1 (fun k_ => k_ < w.heap.size) _ _ l1_2 t213 t214 t215 _ ?side1 A29.out).mono ?_); (case side1 => exact Kd.V_mk HC1_2.out (Kd.F_below (Kd.C_F Kd.heap_bool HR1_2.out) (bl_ HB))); rintro e w55 ⟨v216, rfl, ho0, hb⟩; have n0_ := Aside0.mk (Kd.R_below (by (with_reducible repeat (first | apply Kd.R_alloc | apply Kd.R_drewN | apply Kd.R_drew)); exact HO204.out) hb); have n1_ := Aside0.mk (Kd.V_below (by (with_reducible repeat (first | apply Kd.V_alloc | apply Kd.V_drewN | apply Kd.V_drew)); exact HO211.out) hb); have n2_ := Aside0.mk (Kd.V_lower (Kd.V_mono (ok' := fun k_ => some k_ ≠ (.slice Ao25 t202.length co25 : Value).ownBlock ∧ k_ ≠ gb197 ∧ k_ ≠ gb198 ∧ k_ ≠ gb206) ho0 (fun k_ hk_ => ⟨Or.elim hk_ (fun hs_ => fun e_ => Nat.not_le.2 hs_ (Kd.R_base HO204.out k_ e_.symm)) (fun hn_ => (Kd.fresh' (Kd.R_lt (by (with_reducible repeat (first | apply Kd.R_alloc | apply Kd.R_drewN | apply Kd.R_drew)); exact HO204.out)) k_ hn_)), Or.elim hk_ (fun hs_ => fun e_ => Nat.not_le.2 hs_ (by rw [e_]; exact GW197.out)) (fun hn_ => (Kd.freshB (g := gb197) (o := .cells #[.int .u64 a0_0, .int .i64 a0_1, .slice A0_2 l0_2.length c0_2] 25 (0, 0)) (bk_ BK197) k_ hn_)), Or.elim hk_ (fun hs_ => fun e_ => Nat.not_le.2 hs_ (by rw [e_]; exact GW198.out)) (fun hn_ => (Kd.freshB (g := gb198) (o := .cells #[.int .u64 a1_0, .int .i64 a1_1, .slice A1_2 l1_2.length c1_2] 25 (0, 0)) (bk_ BK198) k_ hn_)), Or.elim hk_ (fun hs_ => fun e_ => Nat.not_le.2 hs_ (by rw [e_]; exact GW206.out)) (fun hn_ => (Kd.freshB (g := gb206) (o := .cells #[.int .u64 t200, .int .i64 t201, .slice Ao25 t202.length co25] 25 (0, 0)) (bk_ BK206) k_ hn_))⟩)) (below_size (bl_ HB))); have n3_ := Aside0.mk (blk_below (bk_ BK197) hb); have n4_ := Aside0.mk (blk_below (bk_ BK198) hb); have n5_ := Aside0.mk (blk_below (bk_ BK206) hb); have n6_ := Aside0.mk (below_step (bl_ HB) hb); clear HO204; clear HO211; clear BK197; clear BK198; clear BK206; clear HB; have HO204 := n0_; have HO211 := n1_; have HO217 := n2_; have BK197 := n3_; have BK198 := n4_; have BK206 := n5_; have HB := n6_; clear n0_ n1_ n2_ n3_ n4_ n5_ n6_; (try clear hb); (try clear hb2); (try clear hk); (try clear hi); (try clear ho0); obtain ⟨Ao56, co56, eo56⟩ := Kd.V_slice HO217.out; subst eo56) | (go_at_call 18; (with_reducible refine (rillmeterref10_Right.calls t213 t214 _ _ t215 true _ ?side1 ?side2 A30.out).mono ?_); (case side1 => repeat (first | exact (Kd.V_reads' HO217.out).2.2 | (with_reducible refine Kd.C_alloc ?_ _) | (with_reducible refine Kd.C_drewN ?_ _) | (with_reducible refine Kd.C_drew ?_))); (case side2 => exact (Kd.V_reads' HO217.out).2.1); rintro e w57 ⟨rfl, hb⟩; have n0_ := Aside0.mk (Kd.R_below (by (with_reducible repeat (first | apply Kd.R_alloc | apply Kd.R_drewN | apply Kd.R_drew)); exact HO204.out) hb); have n1_ := Aside0.mk (Kd.V_below (by (with_reducible repeat (first | apply Kd.V_alloc | apply Kd.V_drewN | apply Kd.V_drew)); exact HO211.out) hb); have n2_ := Aside0.mk (Kd.V_below (by (with_reducible repeat (first | apply Kd.V_alloc | apply Kd.V_drewN | apply Kd.V_drew)); exact HO217.out) hb); have n3_ := Aside0.mk (blk_below (bk_ BK197) hb); have n4_ := Aside0.mk (blk_below (bk_ BK198) hb); have n5_ := Aside0.mk (blk_below (bk_ BK206) hb); have n6_ := Aside0.mk (below_step (bl_ HB) hb); clear HO204; clear HO211; clear HO217; clear BK197; clear BK198; clear BK206; clear HB; have HO204 := n0_; have HO211 := n1_; have HO217 := n2_; have BK197 := n3_; have BK198 := n4_; have BK206 := n5_; have HB := n6_; clear n0_ n1_ n2_ n3_ n4_ n5_ n6_; (try clear hb); (try clear hb2); (try clear hk); (try clear hi); have hcz58_0 : w57.cell? ⟨gb197, 0, none⟩ = some (.int .u64 a0_0) := (blk_cell BK197.out 0).trans rfl; have hcz58_1 : w57.cell? ⟨gb197, 1, none⟩ = some (.int .i64 a0_1) := (blk_cell BK197.out 1).trans rfl; have hcz58_2 : w57.cell? ⟨gb197, 2, none⟩ = some (.slice A0_2 l0_2.length c0_2) := (blk_cell BK197.out 2).trans rfl; have hfz58_0 := blk_frozen BK197.out 0; have hfz58_1 := blk_frozen BK197.out 1; have hfz58_2 := blk_frozen BK197.out 2; have hcz59_0 : w57.cell? ⟨gb198, 0, none⟩ = some (.int .u64 a1_0) := (blk_cell BK198.out 0).trans rfl; have hcz59_1 : w57.cell? ⟨gb198, 1, none⟩ = some (.int .i64 a1_1) := (blk_cell BK198.out 1).trans rfl; have hcz59_2 : w57.cell? ⟨gb198, 2, none⟩ = some (.slice A1_2 l1_2.length c1_2) := (blk_cell BK198.out 2).trans rfl; have hfz59_0 := blk_frozen BK198.out 0; have hfz59_1 := blk_frozen BK198.out 1; have hfz59_2 := blk_frozen BK198.out 2))
                  repeat (go_quiet (first | (go_at_call 11; (with_reducible refine (rillmeterlaw10_ref.calls a0_0 a0_1 (fun k_ => k_ < w.heap.size) _ _ l0_2 t207 t208 t209 _ ?side1 A26.out).mono ?_); (case side1 => exact Kd.V_mk HC0_2.out (Kd.F_below (Kd.C_F Kd.heap_bool HR0_2.out) (bl_ HB))); rintro e w50 ⟨v210, rfl, ho0, hb⟩; have n0_ := Aside0.mk (Kd.R_below (by (with_reducible repeat (first | apply Kd.R_alloc | apply Kd.R_drewN | apply Kd.R_drew)); exact (Kd.R_mono (Kd.R_far (p := ⟨gb206, 2, none⟩) (Kd.R_far (p := ⟨gb206, 1, none⟩) (Kd.R_far (p := ⟨gb206, 0, none⟩) (Kd.R_types HO204.out BK206.out (by decide)) (fun _ hk => hk.2) (.int .u64 t200)) (fun _ hk => hk.2) (.int .i64 t201)) (fun _ hk => hk.2) (.slice Ao25 t202.length co25)) (fun _ h_ => h_.1))) hb); have n1_ := Aside0.mk (Kd.V_lower (Kd.V_mono (ok' := fun k_ => some k_ ≠ (.slice Ao25 t202.length co25 : Value).ownBlock ∧ k_ ≠ gb197 ∧ k_ ≠ gb198 ∧ k_ ≠ gb206) ho0 (fun k_ hk_ => ⟨Or.elim hk_ (fun hs_ => fun e_ => Nat.not_le.2 hs_ (Kd.R_base HO204.out k_ e_.symm)) (fun hn_ => (Kd.fresh' (Kd.R_lt (by (with_reducible repeat (first | apply Kd.R_alloc | apply Kd.R_drewN | apply Kd.R_drew)); exact (Kd.R_mono (Kd.R_far (p := ⟨gb206, 2, none⟩) (Kd.R_far (p := ⟨gb206, 1, none⟩) (Kd.R_far (p := ⟨gb206, 0, none⟩) (Kd.R_types HO204.out BK206.out (by decide)) (fun _ hk => hk.2) (.int .u64 t200)) (fun _ hk => hk.2) (.int .i64 t201)) (fun _ hk => hk.2) (.slice Ao25 t202.length co25)) (fun _ h_ => h_.1)))) k_ hn_)), Or.elim hk_ (fun hs_ => fun e_ => Nat.not_le.2 hs_ (by rw [e_]; exact GW197.out)) (fun hn_ => (Kd.freshB (g := gb197) (o := .cells #[.int .u64 a0_0, .int .i64 a0_1, .slice A0_2 l0_2.length c0_2] 25 (0, 0)) (by (with_reducible repeat (first | refine blk_drewN ?_ _ | refine blk_drew ?_ | refine blk_alloc ?_ _)); refine blk_far ?_ NB197_206.out _; (with_reducible repeat (first | refine blk_drewN ?_ _ | refine blk_drew ?_ | refine blk_alloc ?_ _)); refine blk_far ?_ NB197_206.out _; (with_reducible repeat (first | refine blk_drewN ?_ _ | refine blk_drew ?_ | refine blk_alloc ?_ _)); refine blk_far ?_ NB197_206.out _; (with_reducible repeat (first | refine blk_drewN ?_ _ | refine blk_drew ?_ | refine blk_alloc ?_ _)); exact BK197.out) k_ hn_)), Or.elim hk_ (fun hs_ => fun e_ => Nat.not_le.2 hs_ (by rw [e_]; exact GW198.out)) (fun hn_ => (Kd.freshB (g := gb198) (o := .cells #[.int .u64 a1_0, .int .i64 a1_1, .slice A1_2 l1_2.length c1_2] 25 (0, 0)) (by (with_reducible repeat (first | refine blk_drewN ?_ _ | refine blk_drew ?_ | refine blk_alloc ?_ _)); refine blk_far ?_ NB198_206.out _; (with_reducible repeat (first | refine blk_drewN ?_ _ | refine blk_drew ?_ | refine blk_alloc ?_ _)); refine blk_far ?_ NB198_206.out _; (with_reducible repeat (first | refine blk_drewN ?_ _ | refine blk_drew ?_ | refine blk_alloc ?_ _)); refine blk_far ?_ NB198_206.out _; (with_reducible repeat (first | refine blk_drewN ?_ _ | refine blk_drew ?_ | refine blk_alloc ?_ _)); exact BK198.out) k_ hn_)), Or.elim hk_ (fun hs_ => fun e_ => Nat.not_le.2 hs_ (by rw [e_]; exact GW206.out)) (fun hn_ => (Kd.freshB (g := gb206) (o := .cells #[.int .u64 t200, .int .i64 t201, .slice Ao25 t202.length co25] 25 (0, 0)) (by (with_reducible repeat (first | refine blk_drewN ?_ _ | refine blk_drew ?_ | refine blk_alloc ?_ _)); refine blk_put (cs := #[.int .u64 t200, .int .i64 t201, .slice none 0 0]) ?_ 2 _ rfl; (with_reducible repeat (first | refine blk_drewN ?_ _ | refine blk_drew ?_ | refine blk_alloc ?_ _)); refine blk_put (cs := #[.int .u64 t200, .int .i64 0, .slice none 0 0]) ?_ 1 _ rfl; (with_reducible repeat (first | refine blk_drewN ?_ _ | refine blk_drew ?_ | refine blk_alloc ?_ _)); refine blk_put (cs := #[.int .u64 0, .int .i64 0, .slice none 0 0]) ?_ 0 _ rfl; (with_reducible repeat (first | refine blk_drewN ?_ _ | refine blk_drew ?_ | refine blk_alloc ?_ _)); exact BK206.out) k_ hn_))⟩)) (below_size (bl_ HB))); have n2_ := Aside0.mk (blk_below (g := gb197) (o := .cells #[.int .u64 a0_0, .int .i64 a0_1, .slice A0_2 l0_2.length c0_2] 25 (0, 0)) (by (with_reducible repeat (first | refine blk_drewN ?_ _ | refine blk_drew ?_ | refine blk_alloc ?_ _)); refine blk_far ?_ NB197_206.out _; (with_reducible repeat (first | refine blk_drewN ?_ _ | refine blk_drew ?_ | refine blk_alloc ?_ _)); refine blk_far ?_ NB197_206.out _; (with_reducible repeat (first | refine blk_drewN ?_ _ | refine blk_drew ?_ | refine blk_alloc ?_ _)); refine blk_far ?_ NB197_206.out _; (with_reducible repeat (first | refine blk_drewN ?_ _ | refine blk_drew ?_ | refine blk_alloc ?_ _)); exact BK197.out) hb); have n3_ := Aside0.mk (blk_below (g := gb198) (o := .cells #[.int .u64 a1_0, .int .i64 a1_1, .slice A1_2 l1_2.length c1_2] 25 (0, 0)) (by (with_reducible repeat (first | refine blk_drewN ?_ _ | refine blk_drew ?_ | refine blk_alloc ?_ _)); refine blk_far ?_ NB198_206.out _; (with_reducible repeat (first | refine blk_drewN ?_ _ | refine blk_drew ?_ | refine blk_alloc ?_ _)); refine blk_far ?_ NB198_206.out _; (with_reducible repeat (first | refine blk_drewN ?_ _ | refine blk_drew ?_ | refine blk_alloc ?_ _)); refine blk_far ?_ NB198_206.out _; (with_reducible repeat (first | refine blk_drewN ?_ _ | refine blk_drew ?_ | refine blk_alloc ?_ _)); exact BK198.out) hb); have n4_ := Aside0.mk (blk_below (g := gb206) (o := .cells #[.int .u64 t200, .int .i64 t201, .slice Ao25 t202.length co25] 25 (0, 0)) (by (with_reducible repeat (first | refine blk_drewN ?_ _ | refine blk_drew ?_ | refine blk_alloc ?_ _)); refine blk_put (cs := #[.int .u64 t200, .int .i64 t201, .slice none 0 0]) ?_ 2 _ rfl; (with_reducible repeat (first | refine blk_drewN ?_ _ | refine blk_drew ?_ | refine blk_alloc ?_ _)); refine blk_put (cs := #[.int .u64 t200, .int .i64 0, .slice none 0 0]) ?_ 1 _ rfl; (with_reducible repeat (first | refine blk_drewN ?_ _ | refine blk_drew ?_ | refine blk_alloc ?_ _)); refine blk_put (cs := #[.int .u64 0, .int .i64 0, .slice none 0 0]) ?_ 0 _ rfl; (with_reducible repeat (first | refine blk_drewN ?_ _ | refine blk_drew ?_ | refine blk_alloc ?_ _)); exact BK206.out) hb); have n5_ := Aside0.mk (below_step (bl_ HB) hb); clear HO204; clear BK197; clear BK198; clear BK206; clear HB; have HO204 := n0_; have HO211 := n1_; have BK197 := n2_; have BK198 := n3_; have BK206 := n4_; have HB := n5_; clear n0_ n1_ n2_ n3_ n4_ n5_; (try clear hb); (try clear hb2); (try clear hk); (try clear hi); (try clear ho0); obtain ⟨Ao51, co51, eo51⟩ := Kd.V_slice HO211.out; subst eo51) | (go_at_call 18; (with_reducible refine (rillmeterref10_Right.calls t207 t208 _ _ t209 true _ ?side1 ?side2 A27.out).mono ?_); (case side1 => repeat (first | exact (Kd.V_reads' HO211.out).2.2 | (with_reducible refine Kd.C_alloc ?_ _) | (with_reducible refine Kd.C_drewN ?_ _) | (with_reducible refine Kd.C_drew ?_))); (case side2 => exact (Kd.V_reads' HO211.out).2.1); rintro e w52 ⟨rfl, hb⟩; have n0_ := Aside0.mk (Kd.R_below (by (with_reducible repeat (first | apply Kd.R_alloc | apply Kd.R_drewN | apply Kd.R_drew)); exact HO204.out) hb); have n1_ := Aside0.mk (Kd.V_below (by (with_reducible repeat (first | apply Kd.V_alloc | apply Kd.V_drewN | apply Kd.V_drew)); exact HO211.out) hb); have n2_ := Aside0.mk (blk_below (bk_ BK197) hb); have n3_ := Aside0.mk (blk_below (bk_ BK198) hb); have n4_ := Aside0.mk (blk_below (bk_ BK206) hb); have n5_ := Aside0.mk (below_step (bl_ HB) hb); clear HO204; clear HO211; clear BK197; clear BK198; clear BK206; clear HB; have HO204 := n0_; have HO211 := n1_; have BK197 := n2_; have BK198 := n3_; have BK206 := n4_; have HB := n5_; clear n0_ n1_ n2_ n3_ n4_ n5_; (try clear hb); (try clear hb2); (try clear hk); (try clear hi); have hnb53 := NB198_206.out; have hnc53 := NB206_198.out; have hcz54_0 : w52.cell? ⟨gb198, 0, none⟩ = some (.int .u64 a1_0) := (blk_cell BK198.out 0).trans rfl; have hcz54_1 : w52.cell? ⟨gb198, 1, none⟩ = some (.int .i64 a1_1) := (blk_cell BK198.out 1).trans rfl; have hcz54_2 : w52.cell? ⟨gb198, 2, none⟩ = some (.slice A1_2 l1_2.length c1_2) := (blk_cell BK198.out 2).trans rfl; have hfz54_0 := blk_frozen BK198.out 0; have hfz54_1 := blk_frozen BK198.out 1; have hfz54_2 := blk_frozen BK198.out 2) | (go_at_call 11; (with_reducible refine (rillmeterlaw10_ref.calls a1_0 a1_1 (fun k_ => k_ < w.heap.size) _ _ l1_2 t213 t214 t215 _ ?side1 A29.out).mono ?_); (case side1 => exact Kd.V_mk HC1_2.out (Kd.F_below (Kd.C_F Kd.heap_bool HR1_2.out) (bl_ HB))); rintro e w55 ⟨v216, rfl, ho0, hb⟩; have n0_ := Aside0.mk (Kd.R_below (by (with_reducible repeat (first | apply Kd.R_alloc | apply Kd.R_drewN | apply Kd.R_drew)); exact HO204.out) hb); have n1_ := Aside0.mk (Kd.V_below (by (with_reducible repeat (first | apply Kd.V_alloc | apply Kd.V_drewN | apply Kd.V_drew)); exact HO211.out) hb); have n2_ := Aside0.mk (Kd.V_lower (Kd.V_mono (ok' := fun k_ => some k_ ≠ (.slice Ao25 t202.length co25 : Value).ownBlock ∧ k_ ≠ gb197 ∧ k_ ≠ gb198 ∧ k_ ≠ gb206) ho0 (fun k_ hk_ => ⟨Or.elim hk_ (fun hs_ => fun e_ => Nat.not_le.2 hs_ (Kd.R_base HO204.out k_ e_.symm)) (fun hn_ => (Kd.fresh' (Kd.R_lt (by (with_reducible repeat (first | apply Kd.R_alloc | apply Kd.R_drewN | apply Kd.R_drew)); exact HO204.out)) k_ hn_)), Or.elim hk_ (fun hs_ => fun e_ => Nat.not_le.2 hs_ (by rw [e_]; exact GW197.out)) (fun hn_ => (Kd.freshB (g := gb197) (o := .cells #[.int .u64 a0_0, .int .i64 a0_1, .slice A0_2 l0_2.length c0_2] 25 (0, 0)) (bk_ BK197) k_ hn_)), Or.elim hk_ (fun hs_ => fun e_ => Nat.not_le.2 hs_ (by rw [e_]; exact GW198.out)) (fun hn_ => (Kd.freshB (g := gb198) (o := .cells #[.int .u64 a1_0, .int .i64 a1_1, .slice A1_2 l1_2.length c1_2] 25 (0, 0)) (bk_ BK198) k_ hn_)), Or.elim hk_ (fun hs_ => fun e_ => Nat.not_le.2 hs_ (by rw [e_]; exact GW206.out)) (fun hn_ => (Kd.freshB (g := gb206) (o := .cells #[.int .u64 t200, .int .i64 t201, .slice Ao25 t202.length co25] 25 (0, 0)) (bk_ BK206) k_ hn_))⟩)) (below_size (bl_ HB))); have n3_ := Aside0.mk (blk_below (bk_ BK197) hb); have n4_ := Aside0.mk (blk_below (bk_ BK198) hb); have n5_ := Aside0.mk (blk_below (bk_ BK206) hb); have n6_ := Aside0.mk (below_step (bl_ HB) hb); clear HO204; clear HO211; clear BK197; clear BK198; clear BK206; clear HB; have HO204 := n0_; have HO211 := n1_; have HO217 := n2_; have BK197 := n3_; have BK198 := n4_; have BK206 := n5_; have HB := n6_; clear n0_ n1_ n2_ n3_ n4_ n5_ n6_; (try clear hb); (try clear hb2); (try clear hk); (try clear hi); (try clear ho0); obtain ⟨Ao56, co56, eo56⟩ := Kd.V_slice HO217.out; subst eo56) | (go_at_call 18; (with_reducible refine (rillmeterref10_Right.calls t213 t214 _ _ t215 true _ ?side1 ?side2 A30.out).mono ?_); (case side1 => repeat (first | exact (Kd.V_reads' HO217.out).2.2 | (with_reducible refine Kd.C_alloc ?_ _) | (with_reducible refine Kd.C_drewN ?_ _) | (with_reducible refine Kd.C_drew ?_))); (case side2 => exact (Kd.V_reads' HO217.out).2.1); rintro e w57 ⟨rfl, hb⟩; have n0_ := Aside0.mk (Kd.R_below (by (with_reducible repeat (first | apply Kd.R_alloc | apply Kd.R_drewN | apply Kd.R_drew)); exact HO204.out) hb); have n1_ := Aside0.mk (Kd.V_below (by (with_reducible repeat (first | apply Kd.V_alloc | apply Kd.V_drewN | apply Kd.V_drew)); exact HO211.out) hb); have n2_ := Aside0.mk (Kd.V_below (by (with_reducible repeat (first | apply Kd.V_alloc | apply Kd.V_drewN | apply Kd.V_drew)); exact HO217.out) hb); have n3_ := Aside0.mk (blk_below (bk_ BK197) hb); have n4_ := Aside0.mk (blk_below (bk_ BK198) hb); have n5_ := Aside0.mk (blk_below (bk_ BK206) hb); have n6_ := Aside0.mk (below_step (bl_ HB) hb); clear HO204; clear HO211; clear HO217; clear BK197; clear BK198; clear BK206; clear HB; have HO204 := n0_; have HO211 := n1_; have HO217 := n2_; have BK197 := n3_; have BK198 := n4_; have BK206 := n5_; have HB := n6_; clear n0_ n1_ n2_ n3_ n4_ n5_ n6_; (try clear hb); (try clear hb2); (try clear hk); (try clear hi); have hcz58_0 : w57.cell? ⟨gb197, 0, none⟩ = some (.int .u64 a0_0) := (blk_cell BK197.out 0).trans rfl; have hcz58_1 : w57.cell? ⟨gb197, 1, none⟩ = some (.int .i64 a0_1) := (blk_cell BK197.out 1).trans rfl; have hcz58_2 : w57.cell? ⟨gb197, 2, none⟩ = some (.slice A0_2 l0_2.length c0_2) := (blk_cell BK197.out 2).trans rfl; have hfz58_0 := blk_frozen BK197.out 0; have hfz58_1 := blk_frozen BK197.out 1; have hfz58_2 := blk_frozen BK197.out 2; have hcz59_0 : w57.cell? ⟨gb198, 0, none⟩ = some (.int .u64 a1_0) := (blk_cell BK198.out 0).trans rfl; have hcz59_1 : w57.cell? ⟨gb198, 1, none⟩ = some (.int .i64 a1_1) := (blk_cell BK198.out 1).trans rfl; have hcz59_2 : w57.cell? ⟨gb198, 2, none⟩ = some (.slice A1_2 l1_2.length c1_2) := (blk_cell BK198.out 2).trans rfl; have hfz59_0 := blk_frozen BK198.out 0; have hfz59_1 := blk_frozen BK198.out 1; have hfz59_2 := blk_frozen BK198.out 2)); try go_wp2_with (first | (go_at_call 11; (with_reducible refine (rillmeterlaw10_ref.calls a0_0 a0_1 (fun k_ => k_ < w.heap.size) _ _ l0_2 t207 t208 t209 _ ?side1 A26.out).mono ?_); (case side1 => exact Kd.V_mk HC0_2.out (Kd.F_below (Kd.C_F Kd.heap_bool HR0_2.out) (bl_ HB))); rintro e w50 ⟨v210, rfl, ho0, hb⟩; have n0_ := Aside0.mk (Kd.R_below (by (with_reducible repeat (first | apply Kd.R_alloc | apply Kd.R_drewN | apply Kd.R_drew)); exact (Kd.R_mono (Kd.R_far (p := ⟨gb206, 2, none⟩) (Kd.R_far (p := ⟨gb206, 1, none⟩) (Kd.R_far (p := ⟨gb206, 0, none⟩) (Kd.R_types HO204.out BK206.out (by decide)) (fun _ hk => hk.2) (.int .u64 t200)) (fun _ hk => hk.2) (.int .i64 t201)) (fun _ hk => hk.2) (.slice Ao25 t202.length co25)) (fun _ h_ => h_.1))) hb); have n1_ := Aside0.mk (Kd.V_lower (Kd.V_mono (ok' := fun k_ => some k_ ≠ (.slice Ao25 t202.length co25 : Value).ownBlock ∧ k_ ≠ gb197 ∧ k_ ≠ gb198 ∧ k_ ≠ gb206) ho0 (fun k_ hk_ => ⟨Or.elim hk_ (fun hs_ => fun e_ => Nat.not_le.2 hs_ (Kd.R_base HO204.out k_ e_.symm)) (fun hn_ => (Kd.fresh' (Kd.R_lt (by (with_reducible repeat (first | apply Kd.R_alloc | apply Kd.R_drewN | apply Kd.R_drew)); exact (Kd.R_mono (Kd.R_far (p := ⟨gb206, 2, none⟩) (Kd.R_far (p := ⟨gb206, 1, none⟩) (Kd.R_far (p := ⟨gb206, 0, none⟩) (Kd.R_types HO204.out BK206.out (by decide)) (fun _ hk => hk.2) (.int .u64 t200)) (fun _ hk => hk.2) (.int .i64 t201)) (fun _ hk => hk.2) (.slice Ao25 t202.length co25)) (fun _ h_ => h_.1)))) k_ hn_)), Or.elim hk_ (fun hs_ => fun e_ => Nat.not_le.2 hs_ (by rw [e_]; exact GW197.out)) (fun hn_ => (Kd.freshB (g := gb197) (o := .cells #[.int .u64 a0_0, .int .i64 a0_1, .slice A0_2 l0_2.length c0_2] 25 (0, 0)) (by (with_reducible repeat (first | refine blk_drewN ?_ _ | refine blk_drew ?_ | refine blk_alloc ?_ _)); refine blk_far ?_ NB197_206.out _; (with_reducible repeat (first | refine blk_drewN ?_ _ | refine blk_drew ?_ | refine blk_alloc ?_ _)); refine blk_far ?_ NB197_206.out _; (with_reducible repeat (first | refine blk_drewN ?_ _ | refine blk_drew ?_ | refine blk_alloc ?_ _)); refine blk_far ?_ NB197_206.out _; (with_reducible repeat (first | refine blk_drewN ?_ _ | refine blk_drew ?_ | refine blk_alloc ?_ _)); exact BK197.out) k_ hn_)), Or.elim hk_ (fun hs_ => fun e_ => Nat.not_le.2 hs_ (by rw [e_]; exact GW198.out)) (fun hn_ => (Kd.freshB (g := gb198) (o := .cells #[.int .u64 a1_0, .int .i64 a1_1, .slice A1_2 l1_2.length c1_2] 25 (0, 0)) (by (with_reducible repeat (first | refine blk_drewN ?_ _ | refine blk_drew ?_ | refine blk_alloc ?_ _)); refine blk_far ?_ NB198_206.out _; (with_reducible repeat (first | refine blk_drewN ?_ _ | refine blk_drew ?_ | refine blk_alloc ?_ _)); refine blk_far ?_ NB198_206.out _; (with_reducible repeat (first | refine blk_drewN ?_ _ | refine blk_drew ?_ | refine blk_alloc ?_ _)); refine blk_far ?_ NB198_206.out _; (with_reducible repeat (first | refine blk_drewN ?_ _ | refine blk_drew ?_ | refine blk_alloc ?_ _)); exact BK198.out) k_ hn_)), Or.elim hk_ (fun hs_ => fun e_ => Nat.not_le.2 hs_ (by rw [e_]; exact GW206.out)) (fun hn_ => (Kd.freshB (g := gb206) (o := .cells #[.int .u64 t200, .int .i64 t201, .slice Ao25 t202.length co25] 25 (0, 0)) (by (with_reducible repeat (first | refine blk_drewN ?_ _ | refine blk_drew ?_ | refine blk_alloc ?_ _)); refine blk_put (cs := #[.int .u64 t200, .int .i64 t201, .slice none 0 0]) ?_ 2 _ rfl; (with_reducible repeat (first | refine blk_drewN ?_ _ | refine blk_drew ?_ | refine blk_alloc ?_ _)); refine blk_put (cs := #[.int .u64 t200, .int .i64 0, .slice none 0 0]) ?_ 1 _ rfl; (with_reducible repeat (first | refine blk_drewN ?_ _ | refine blk_drew ?_ | refine blk_alloc ?_ _)); refine blk_put (cs := #[.int .u64 0, .int .i64 0, .slice none 0 0]) ?_ 0 _ rfl; (with_reducible repeat (first | refine blk_drewN ?_ _ | refine blk_drew ?_ | refine blk_alloc ?_ _)); exact BK206.out) k_ hn_))⟩)) (below_size (bl_ HB))); have n2_ := Aside0.mk (blk_below (g := gb197) (o := .cells #[.int .u64 a0_0, .int .i64 a0_1, .slice A0_2 l0_2.length c0_2] 25 (0, 0)) (by (with_reducible repeat (first | refine blk_drewN ?_ _ | refine blk_drew ?_ | refine blk_alloc ?_ _)); refine blk_far ?_ NB197_206.out _; (with_reducible repeat (first | refine blk_drewN ?_ _ | refine blk_drew ?_ | refine blk_alloc ?_ _)); refine blk_far ?_ NB197_206.out _; (with_reducible repeat (first | refine blk_drewN ?_ _ | refine blk_drew ?_ | refine blk_alloc ?_ _)); refine blk_far ?_ NB197_206.out _; (with_reducible repeat (first | refine blk_drewN ?_ _ | refine blk_drew ?_ | refine blk_alloc ?_ _)); exact BK197.out) hb); have n3_ := Aside0.mk (blk_below (g := gb198) (o := .cells #[.int .u64 a1_0, .int .i64 a1_1, .slice A1_2 l1_2.length c1_2] 25 (0, 0)) (by (with_reducible repeat (first | refine blk_drewN ?_ _ | refine blk_drew ?_ | refine blk_alloc ?_ _)); refine blk_far ?_ NB198_206.out _; (with_reducible repeat (first | refine blk_drewN ?_ _ | refine blk_drew ?_ | refine blk_alloc ?_ _)); refine blk_far ?_ NB198_206.out _; (with_reducible repeat (first | refine blk_drewN ?_ _ | refine blk_drew ?_ | refine blk_alloc ?_ _)); refine blk_far ?_ NB198_206.out _; (with_reducible repeat (first | refine blk_drewN ?_ _ | refine blk_drew ?_ | refine blk_alloc ?_ _)); exact BK198.out) hb); have n4_ := Aside0.mk (blk_below (g := gb206) (o := .cells #[.int .u64 t200, .int .i64 t201, .slice Ao25 t202.length co25] 25 (0, 0)) (by (with_reducible repeat (first | refine blk_drewN ?_ _ | refine blk_drew ?_ | refine blk_alloc ?_ _)); refine blk_put (cs := #[.int .u64 t200, .int .i64 t201, .slice none 0 0]) ?_ 2 _ rfl; (with_reducible repeat (first | refine blk_drewN ?_ _ | refine blk_drew ?_ | refine blk_alloc ?_ _)); refine blk_put (cs := #[.int .u64 t200, .int .i64 0, .slice none 0 0]) ?_ 1 _ rfl; (with_reducible repeat (first | refine blk_drewN ?_ _ | refine blk_drew ?_ | refine blk_alloc ?_ _)); refine blk_put (cs := #[.int .u64 0, .int .i64 0, .slice none 0 0]) ?_ 0 _ rfl; (with_reducible repeat (first | refine blk_drewN ?_ _ | refine blk_drew ?_ | refine blk_alloc ?_ _)); exact BK206.out) hb); have n5_ := Aside0.mk (below_step (bl_ HB) hb); clear HO204; clear BK197; clear BK198; clear BK206; clear HB; have HO204 := n0_; have HO211 := n1_; have BK197 := n2_; have BK198 := n3_; have BK206 := n4_; have HB := n5_; clear n0_ n1_ n2_ n3_ n4_ n5_; (try clear hb); (try clear hb2); (try clear hk); (try clear hi); (try clear ho0); obtain ⟨Ao51, co51, eo51⟩ := Kd.V_slice HO211.out; subst eo51) | (go_at_call 18; (with_reducible refine (rillmeterref10_Right.calls t207 t208 _ _ t209 true _ ?side1 ?side2 A27.out).mono ?_); (case side1 => repeat (first | exact (Kd.V_reads' HO211.out).2.2 | (with_reducible refine Kd.C_alloc ?_ _) | (with_reducible refine Kd.C_drewN ?_ _) | (with_reducible refine Kd.C_drew ?_))); (case side2 => exact (Kd.V_reads' HO211.out).2.1); rintro e w52 ⟨rfl, hb⟩; have n0_ := Aside0.mk (Kd.R_below (by (with_reducible repeat (first | apply Kd.R_alloc | apply Kd.R_drewN | apply Kd.R_drew)); exact HO204.out) hb); have n1_ := Aside0.mk (Kd.V_below (by (with_reducible repeat (first | apply Kd.V_alloc | apply Kd.V_drewN | apply Kd.V_drew)); exact HO211.out) hb); have n2_ := Aside0.mk (blk_below (bk_ BK197) hb); have n3_ := Aside0.mk (blk_below (bk_ BK198) hb); have n4_ := Aside0.mk (blk_below (bk_ BK206) hb); have n5_ := Aside0.mk (below_step (bl_ HB) hb); clear HO204; clear HO211; clear BK197; clear BK198; clear BK206; clear HB; have HO204 := n0_; have HO211 := n1_; have BK197 := n2_; have BK198 := n3_; have BK206 := n4_; have HB := n5_; clear n0_ n1_ n2_ n3_ n4_ n5_; (try clear hb); (try clear hb2); (try clear hk); (try clear hi); have hnb53 := NB198_206.out; have hnc53 := NB206_198.out; have hcz54_0 : w52.cell? ⟨gb198, 0, none⟩ = some (.int .u64 a1_0) := (blk_cell BK198.out 0).trans rfl; have hcz54_1 : w52.cell? ⟨gb198, 1, none⟩ = some (.int .i64 a1_1) := (blk_cell BK198.out 1).trans rfl; have hcz54_2 : w52.cell? ⟨gb198, 2, none⟩ = some (.slice A1_2 l1_2.length c1_2) := (blk_cell BK198.out 2).trans rfl; have hfz54_0 := blk_frozen BK198.out 0; have hfz54_1 := blk_frozen BK198.out 1; have hfz54_2 := blk_frozen BK198.out 2) | (go_at_call 11; (with_reducible refine (rillmeterlaw10_ref.calls a1_0 a1_1 (fun k_ => k_ < w.heap.size) _ _ l1_2 t213 t214 t215 _ ?side1 A29.out).mono ?_); (case side1 => exact Kd.V_mk HC1_2.out (Kd.F_below (Kd.C_F Kd.heap_bool HR1_2.out) (bl_ HB))); rintro e w55 ⟨v216, rfl, ho0, hb⟩; have n0_ := Aside0.mk (Kd.R_below (by (with_reducible repeat (first | apply Kd.R_alloc | apply Kd.R_drewN | apply Kd.R_drew)); exact HO204.out) hb); have n1_ := Aside0.mk (Kd.V_below (by (with_reducible repeat (first | apply Kd.V_alloc | apply Kd.V_drewN | apply Kd.V_drew)); exact HO211.out) hb); have n2_ := Aside0.mk (Kd.V_lower (Kd.V_mono (ok' := fun k_ => some k_ ≠ (.slice Ao25 t202.length co25 : Value).ownBlock ∧ k_ ≠ gb197 ∧ k_ ≠ gb198 ∧ k_ ≠ gb206) ho0 (fun k_ hk_ => ⟨Or.elim hk_ (fun hs_ => fun e_ => Nat.not_le.2 hs_ (Kd.R_base HO204.out k_ e_.symm)) (fun hn_ => (Kd.fresh' (Kd.R_lt (by (with_reducible repeat (first | apply Kd.R_alloc | apply Kd.R_drewN | apply Kd.R_drew)); exact HO204.out)) k_ hn_)), Or.elim hk_ (fun hs_ => fun e_ => Nat.not_le.2 hs_ (by rw [e_]; exact GW197.out)) (fun hn_ => (Kd.freshB (g := gb197) (o := .cells #[.int .u64 a0_0, .int .i64 a0_1, .slice A0_2 l0_2.length c0_2] 25 (0, 0)) (bk_ BK197) k_ hn_)), Or.elim hk_ (fun hs_ => fun e_ => Nat.not_le.2 hs_ (by rw [e_]; exact GW198.out)) (fun hn_ => (Kd.freshB (g := gb198) (o := .cells #[.int .u64 a1_0, .int .i64 a1_1, .slice A1_2 l1_2.length c1_2] 25 (0, 0)) (bk_ BK198) k_ hn_)), Or.elim hk_ (fun hs_ => fun e_ => Nat.not_le.2 hs_ (by rw [e_]; exact GW206.out)) (fun hn_ => (Kd.freshB (g := gb206) (o := .cells #[.int .u64 t200, .int .i64 t201, .slice Ao25 t202.length co25] 25 (0, 0)) (bk_ BK206) k_ hn_))⟩)) (below_size (bl_ HB))); have n3_ := Aside0.mk (blk_below (bk_ BK197) hb); have n4_ := Aside0.mk (blk_below (bk_ BK198) hb); have n5_ := Aside0.mk (blk_below (bk_ BK206) hb); have n6_ := Aside0.mk (below_step (bl_ HB) hb); clear HO204; clear HO211; clear BK197; clear BK198; clear BK206; clear HB; have HO204 := n0_; have HO211 := n1_; have HO217 := n2_; have BK197 := n3_; have BK198 := n4_; have BK206 := n5_; have HB := n6_; clear n0_ n1_ n2_ n3_ n4_ n5_ n6_; (try clear hb); (try clear hb2); (try clear hk); (try clear hi); (try clear ho0); obtain ⟨Ao56, co56, eo56⟩ := Kd.V_slice HO217.out; subst eo56) | (go_at_call 18; (with_reducible refine (rillmeterref10_Right.calls t213 t214 _ _ t215 true _ ?side1 ?side2 A30.out).mono ?_); (case side1 => repeat (first | exact (Kd.V_reads' HO217.out).2.2 | (with_reducible refine Kd.C_alloc ?_ _) | (with_reducible refine Kd.C_drewN ?_ _) | (with_reducible refine Kd.C_drew ?_))); (case side2 => exact (Kd.V_reads' HO217.out).2.1); rintro e w57 ⟨rfl, hb⟩; have n0_ := Aside0.mk (Kd.R_below (by (with_reducible repeat (first | apply Kd.R_alloc | apply Kd.R_drewN | apply Kd.R_drew)); exact HO204.out) hb); have n1_ := Aside0.mk (Kd.V_below (by (with_reducible repeat (first | apply Kd.V_alloc | apply Kd.V_drewN | apply Kd.V_drew)); exact HO211.out) hb); have n2_ := Aside0.mk (Kd.V_below (by (with_reducible repeat (first | apply Kd.V_alloc | apply Kd.V_drewN | apply Kd.V_drew)); exact HO217.out) hb); have n3_ := Aside0.mk (blk_below (bk_ BK197) hb); have n4_ := Aside0.mk (blk_below (bk_ BK198) hb); have n5_ := Aside0.mk (blk_below (bk_ BK206) hb); have n6_ := Aside0.mk (below_step (bl_ HB) hb); clear HO204; clear HO211; clear HO217; clear BK197; clear BK198; clear BK206; clear HB; have HO204 := n0_; have HO211 := n1_; have HO217 := n2_; have BK197 := n3_; have BK198 := n4_; have BK206 := n5_; have HB := n6_; clear n0_ n1_ n2_ n3_ n4_ n5_ n6_; (try clear hb); (try clear hb2); (try clear hk); (try clear hi); have hcz58_0 : w57.cell? ⟨gb197, 0, none⟩ = some (.int .u64 a0_0) := (blk_cell BK197.out 0).trans rfl; have hcz58_1 : w57.cell? ⟨gb197, 1, none⟩ = some (.int .i64 a0_1) := (blk_cell BK197.out 1).trans rfl; have hcz58_2 : w57.cell? ⟨gb197, 2, none⟩ = some (.slice A0_2 l0_2.length c0_2) := (blk_cell BK197.out 2).trans rfl; have hfz58_0 := blk_frozen BK197.out 0; have hfz58_1 := blk_frozen BK197.out 1; have hfz58_2 := blk_frozen BK197.out 2; have hcz59_0 : w57.cell? ⟨gb198, 0, none⟩ = some (.int .u64 a1_0) := (blk_cell BK198.out 0).trans rfl; have hcz59_1 : w57.cell? ⟨gb198, 1, none⟩ = some (.int .i64 a1_1) := (blk_cell BK198.out 1).trans rfl; have hcz59_2 : w57.cell? ⟨gb198, 2, none⟩ = some (.slice A1_2 l1_2.length c1_2) := (blk_cell BK198.out 2).trans rfl; have hfz59_0 := blk_frozen BK198.out 0; have hfz59_1 := blk_frozen BK198.out 1; have hfz59_2 := blk_frozen BK198.out 2)))
                  go_meet
                  case rel => exact ⟨_, (true), (by first | rfl | (simp; done) | (simp [*]; done)), H', ⟨by have := HJ2.out; first | omega | exact Nat.le_refl _⟩, ⟨by (with_reducible repeat (first | apply Kd.R_alloc | apply Kd.R_drewN | apply Kd.R_drew)); exact HO204.out⟩, ⟨bk_ BK197⟩, ⟨bk_ BK198⟩, ⟨bk_ BK206⟩, ⟨bl_ HB⟩⟩
              · rw [if_neg c32] at H
                have c32b0 : (a0_0 == a1_0) = false := beq_eq_false_iff_ne.mpr c32
                have c32b1 : (a0_0 != a1_0) = true := bne_iff_ne.mpr c32
                (first | rw [c32b0] | (simp only [i64_w, i32_w]; rw [c32b0]) | skip)
                have H' := Aside0.mk H
                clear H
                have hnb60 := NB197_198.out
                have hnc60 := NB198_197.out
                have hnb61 := NB197_206.out
                have hnc61 := NB206_197.out
                have hcz62_0 : w21.cell? ⟨gb197, 0, none⟩ = some (.int .u64 a0_0) := (blk_cell BK197.out 0).trans rfl
                have hcz62_1 : w21.cell? ⟨gb197, 1, none⟩ = some (.int .i64 a0_1) := (blk_cell BK197.out 1).trans rfl
                have hcz62_2 : w21.cell? ⟨gb197, 2, none⟩ = some (.slice A0_2 l0_2.length c0_2) := (blk_cell BK197.out 2).trans rfl
                have hfz62_0 := blk_frozen BK197.out 0
                have hfz62_1 := blk_frozen BK197.out 1
                have hfz62_2 := blk_frozen BK197.out 2
                go_wp2_with (first | (go_at_call 11; (with_reducible refine (rillmeterlaw10_ref.calls a0_0 a0_1 (fun k_ => k_ < w.heap.size) _ _ l0_2 t207 t208 t209 _ ?side1 A26.out).mono ?_); (case side1 => exact Kd.V_mk HC0_2.out (Kd.F_below (Kd.C_F Kd.heap_bool HR0_2.out) (bl_ HB))); rintro e w63 ⟨v210, rfl, ho0, hb⟩; have n0_ := Aside0.mk (Kd.R_below (by (with_reducible repeat (first | apply Kd.R_alloc | apply Kd.R_drewN | apply Kd.R_drew)); exact (Kd.R_mono (Kd.R_far (p := ⟨gb206, 2, none⟩) (Kd.R_far (p := ⟨gb206, 1, none⟩) (Kd.R_far (p := ⟨gb206, 0, none⟩) (Kd.R_types HO204.out BK206.out (by decide)) (fun _ hk => hk.2) (.int .u64 t200)) (fun _ hk => hk.2) (.int .i64 t201)) (fun _ hk => hk.2) (.slice Ao25 t202.length co25)) (fun _ h_ => h_.1))) hb); have n1_ := Aside0.mk (Kd.V_lower (Kd.V_mono (ok' := fun k_ => some k_ ≠ (.slice Ao25 t202.length co25 : Value).ownBlock ∧ k_ ≠ gb197 ∧ k_ ≠ gb198 ∧ k_ ≠ gb206) ho0 (fun k_ hk_ => ⟨Or.elim hk_ (fun hs_ => fun e_ => Nat.not_le.2 hs_ (Kd.R_base HO204.out k_ e_.symm)) (fun hn_ => (Kd.fresh' (Kd.R_lt (by (with_reducible repeat (first | apply Kd.R_alloc | apply Kd.R_drewN | apply Kd.R_drew)); exact (Kd.R_mono (Kd.R_far (p := ⟨gb206, 2, none⟩) (Kd.R_far (p := ⟨gb206, 1, none⟩) (Kd.R_far (p := ⟨gb206, 0, none⟩) (Kd.R_types HO204.out BK206.out (by decide)) (fun _ hk => hk.2) (.int .u64 t200)) (fun _ hk => hk.2) (.int .i64 t201)) (fun _ hk => hk.2) (.slice Ao25 t202.length co25)) (fun _ h_ => h_.1)))) k_ hn_)), Or.elim hk_ (fun hs_ => fun e_ => Nat.not_le.2 hs_ (by rw [e_]; exact GW197.out)) (fun hn_ => (Kd.freshB (g := gb197) (o := .cells #[.int .u64 a0_0, .int .i64 a0_1, .slice A0_2 l0_2.length c0_2] 25 (0, 0)) (by (with_reducible repeat (first | refine blk_drewN ?_ _ | refine blk_drew ?_ | refine blk_alloc ?_ _)); refine blk_far ?_ NB197_206.out _; (with_reducible repeat (first | refine blk_drewN ?_ _ | refine blk_drew ?_ | refine blk_alloc ?_ _)); refine blk_far ?_ NB197_206.out _; (with_reducible repeat (first | refine blk_drewN ?_ _ | refine blk_drew ?_ | refine blk_alloc ?_ _)); refine blk_far ?_ NB197_206.out _; (with_reducible repeat (first | refine blk_drewN ?_ _ | refine blk_drew ?_ | refine blk_alloc ?_ _)); exact BK197.out) k_ hn_)), Or.elim hk_ (fun hs_ => fun e_ => Nat.not_le.2 hs_ (by rw [e_]; exact GW198.out)) (fun hn_ => (Kd.freshB (g := gb198) (o := .cells #[.int .u64 a1_0, .int .i64 a1_1, .slice A1_2 l1_2.length c1_2] 25 (0, 0)) (by (with_reducible repeat (first | refine blk_drewN ?_ _ | refine blk_drew ?_ | refine blk_alloc ?_ _)); refine blk_far ?_ NB198_206.out _; (with_reducible repeat (first | refine blk_drewN ?_ _ | refine blk_drew ?_ | refine blk_alloc ?_ _)); refine blk_far ?_ NB198_206.out _; (with_reducible repeat (first | refine blk_drewN ?_ _ | refine blk_drew ?_ | refine blk_alloc ?_ _)); refine blk_far ?_ NB198_206.out _; (with_reducible repeat (first | refine blk_drewN ?_ _ | refine blk_drew ?_ | refine blk_alloc ?_ _)); exact BK198.out) k_ hn_)), Or.elim hk_ (fun hs_ => fun e_ => Nat.not_le.2 hs_ (by rw [e_]; exact GW206.out)) (fun hn_ => (Kd.freshB (g := gb206) (o := .cells #[.int .u64 t200, .int .i64 t201, .slice Ao25 t202.length co25] 25 (0, 0)) (by (with_reducible repeat (first | refine blk_drewN ?_ _ | refine blk_drew ?_ | refine blk_alloc ?_ _)); refine blk_put (cs := #[.int .u64 t200, .int .i64 t201, .slice none 0 0]) ?_ 2 _ rfl; (with_reducible repeat (first | refine blk_drewN ?_ _ | refine blk_drew ?_ | refine blk_alloc ?_ _)); refine blk_put (cs := #[.int .u64 t200, .int .i64 0, .slice none 0 0]) ?_ 1 _ rfl; (with_reducible repeat (first | refine blk_drewN ?_ _ | refine blk_drew ?_ | refine blk_alloc ?_ _)); refine blk_put (cs := #[.int .u64 0, .int .i64 0, .slice none 0 0]) ?_ 0 _ rfl; (with_reducible repeat (first | refine blk_drewN ?_ _ | refine blk_drew ?_ | refine blk_alloc ?_ _)); exact BK206.out) k_ hn_))⟩)) (below_size (bl_ HB))); have n2_ := Aside0.mk (blk_below (g := gb197) (o := .cells #[.int .u64 a0_0, .int .i64 a0_1, .slice A0_2 l0_2.length c0_2] 25 (0, 0)) (by (with_reducible repeat (first | refine blk_drewN ?_ _ | refine blk_drew ?_ | refine blk_alloc ?_ _)); refine blk_far ?_ NB197_206.out _; (with_reducible repeat (first | refine blk_drewN ?_ _ | refine blk_drew ?_ | refine blk_alloc ?_ _)); refine blk_far ?_ NB197_206.out _; (with_reducible repeat (first | refine blk_drewN ?_ _ | refine blk_drew ?_ | refine blk_alloc ?_ _)); refine blk_far ?_ NB197_206.out _; (with_reducible repeat (first | refine blk_drewN ?_ _ | refine blk_drew ?_ | refine blk_alloc ?_ _)); exact BK197.out) hb); have n3_ := Aside0.mk (blk_below (g := gb198) (o := .cells #[.int .u64 a1_0, .int .i64 a1_1, .slice A1_2 l1_2.length c1_2] 25 (0, 0)) (by (with_reducible repeat (first | refine blk_drewN ?_ _ | refine blk_drew ?_ | refine blk_alloc ?_ _)); refine blk_far ?_ NB198_206.out _; (with_reducible repeat (first | refine blk_drewN ?_ _ | refine blk_drew ?_ | refine blk_alloc ?_ _)); refine blk_far ?_ NB198_206.out _; (with_reducible repeat (first | refine blk_drewN ?_ _ | refine blk_drew ?_ | refine blk_alloc ?_ _)); refine blk_far ?_ NB198_206.out _; (with_reducible repeat (first | refine blk_drewN ?_ _ | refine blk_drew ?_ | refine blk_alloc ?_ _)); exact BK198.out) hb); have n4_ := Aside0.mk (blk_below (g := gb206) (o := .cells #[.int .u64 t200, .int .i64 t201, .slice Ao25 t202.length co25] 25 (0, 0)) (by (with_reducible repeat (first | refine blk_drewN ?_ _ | refine blk_drew ?_ | refine blk_alloc ?_ _)); refine blk_put (cs := #[.int .u64 t200, .int .i64 t201, .slice none 0 0]) ?_ 2 _ rfl; (with_reducible repeat (first | refine blk_drewN ?_ _ | refine blk_drew ?_ | refine blk_alloc ?_ _)); refine blk_put (cs := #[.int .u64 t200, .int .i64 0, .slice none 0 0]) ?_ 1 _ rfl; (with_reducible repeat (first | refine blk_drewN ?_ _ | refine blk_drew ?_ | refine blk_alloc ?_ _)); refine blk_put (cs := #[.int .u64 0, .int .i64 0, .slice none 0 0]) ?_ 0 _ rfl; (with_reducible repeat (first | refine blk_drewN ?_ _ | refine blk_drew ?_ | refine blk_alloc ?_ _)); exact BK206.out) hb); have n5_ := Aside0.mk (below_step (bl_ HB) hb); clear HO204; clear BK197; clear BK198; clear BK206; clear HB; have HO204 := n0_; have HO211 := n1_; have BK197 := n2_; have BK198 := n3_; have BK206 := n4_; have HB := n5_; clear n0_ n1_ n2_ n3_ n4_ n5_; (try clear hb); (try clear hb2); (try clear hk); (try clear hi); (try clear ho0); obtain ⟨Ao64, co64, eo64⟩ := Kd.V_slice HO211.out; subst eo64) | (go_at_call 18; (with_reducible refine (rillmeterref10_Right.calls t207 t208 _ _ t209 true _ ?side1 ?side2 A27.out).mono ?_); (case side1 => repeat (first | exact (Kd.V_reads' HO211.out).2.2 | (with_reducible refine Kd.C_alloc ?_ _) | (with_reducible refine Kd.C_drewN ?_ _) | (with_reducible refine Kd.C_drew ?_))); (case side2 => exact (Kd.V_reads' HO211.out).2.1); rintro e w65 ⟨rfl, hb⟩; have n0_ := Aside0.mk (Kd.R_below (by (with_reducible repeat (first | apply Kd.R_alloc | apply Kd.R_drewN | apply Kd.R_drew)); exact HO204.out) hb); have n1_ := Aside0.mk (Kd.V_below (by (with_reducible repeat (first | apply Kd.V_alloc | apply Kd.V_drewN | apply Kd.V_drew)); exact HO211.out) hb); have n2_ := Aside0.mk (blk_below (bk_ BK197) hb); have n3_ := Aside0.mk (blk_below (bk_ BK198) hb); have n4_ := Aside0.mk (blk_below (bk_ BK206) hb); have n5_ := Aside0.mk (below_step (bl_ HB) hb); clear HO204; clear HO211; clear BK197; clear BK198; clear BK206; clear HB; have HO204 := n0_; have HO211 := n1_; have BK197 := n2_; have BK198 := n3_; have BK206 := n4_; have HB := n5_; clear n0_ n1_ n2_ n3_ n4_ n5_; (try clear hb); (try clear hb2); (try clear hk); (try clear hi); have hnb66 := NB198_206.out; have hnc66 := NB206_198.out; have hcz67_0 : w65.cell? ⟨gb198, 0, none⟩ = some (.int .u64 a1_0) := (blk_cell BK198.out 0).trans rfl; have hcz67_1 : w65.cell? ⟨gb198, 1, none⟩ = some (.int .i64 a1_1) := (blk_cell BK198.out 1).trans rfl; have hcz67_2 : w65.cell? ⟨gb198, 2, none⟩ = some (.slice A1_2 l1_2.length c1_2) := (blk_cell BK198.out 2).trans rfl; have hfz67_0 := blk_frozen BK198.out 0; have hfz67_1 := blk_frozen BK198.out 1; have hfz67_2 := blk_frozen BK198.out 2) | (go_at_call 11; (with_reducible refine (rillmeterlaw10_ref.calls a1_0 a1_1 (fun k_ => k_ < w.heap.size) _ _ l1_2 t213 t214 t215 _ ?side1 A29.out).mono ?_); (case side1 => exact Kd.V_mk HC1_2.out (Kd.F_below (Kd.C_F Kd.heap_bool HR1_2.out) (bl_ HB))); rintro e w68 ⟨v216, rfl, ho0, hb⟩; have n0_ := Aside0.mk (Kd.R_below (by (with_reducible repeat (first | apply Kd.R_alloc | apply Kd.R_drewN | apply Kd.R_drew)); exact HO204.out) hb); have n1_ := Aside0.mk (Kd.V_below (by (with_reducible repeat (first | apply Kd.V_alloc | apply Kd.V_drewN | apply Kd.V_drew)); exact HO211.out) hb); have n2_ := Aside0.mk (Kd.V_lower (Kd.V_mono (ok' := fun k_ => some k_ ≠ (.slice Ao25 t202.length co25 : Value).ownBlock ∧ k_ ≠ gb197 ∧ k_ ≠ gb198 ∧ k_ ≠ gb206) ho0 (fun k_ hk_ => ⟨Or.elim hk_ (fun hs_ => fun e_ => Nat.not_le.2 hs_ (Kd.R_base HO204.out k_ e_.symm)) (fun hn_ => (Kd.fresh' (Kd.R_lt (by (with_reducible repeat (first | apply Kd.R_alloc | apply Kd.R_drewN | apply Kd.R_drew)); exact HO204.out)) k_ hn_)), Or.elim hk_ (fun hs_ => fun e_ => Nat.not_le.2 hs_ (by rw [e_]; exact GW197.out)) (fun hn_ => (Kd.freshB (g := gb197) (o := .cells #[.int .u64 a0_0, .int .i64 a0_1, .slice A0_2 l0_2.length c0_2] 25 (0, 0)) (bk_ BK197) k_ hn_)), Or.elim hk_ (fun hs_ => fun e_ => Nat.not_le.2 hs_ (by rw [e_]; exact GW198.out)) (fun hn_ => (Kd.freshB (g := gb198) (o := .cells #[.int .u64 a1_0, .int .i64 a1_1, .slice A1_2 l1_2.length c1_2] 25 (0, 0)) (bk_ BK198) k_ hn_)), Or.elim hk_ (fun hs_ => fun e_ => Nat.not_le.2 hs_ (by rw [e_]; exact GW206.out)) (fun hn_ => (Kd.freshB (g := gb206) (o := .cells #[.int .u64 t200, .int .i64 t201, .slice Ao25 t202.length co25] 25 (0, 0)) (bk_ BK206) k_ hn_))⟩)) (below_size (bl_ HB))); have n3_ := Aside0.mk (blk_below (bk_ BK197) hb); have n4_ := Aside0.mk (blk_below (bk_ BK198) hb); have n5_ := Aside0.mk (blk_below (bk_ BK206) hb); have n6_ := Aside0.mk (below_step (bl_ HB) hb); clear HO204; clear HO211; clear BK197; clear BK198; clear BK206; clear HB; have HO204 := n0_; have HO211 := n1_; have HO217 := n2_; have BK197 := n3_; have BK198 := n4_; have BK206 := n5_; have HB := n6_; clear n0_ n1_ n2_ n3_ n4_ n5_ n6_; (try clear hb); (try clear hb2); (try clear hk); (try clear hi); (try clear ho0); obtain ⟨Ao69, co69, eo69⟩ := Kd.V_slice HO217.out; subst eo69) | (go_at_call 18; (with_reducible refine (rillmeterref10_Right.calls t213 t214 _ _ t215 true _ ?side1 ?side2 A30.out).mono ?_); (case side1 => repeat (first | exact (Kd.V_reads' HO217.out).2.2 | (with_reducible refine Kd.C_alloc ?_ _) | (with_reducible refine Kd.C_drewN ?_ _) | (with_reducible refine Kd.C_drew ?_))); (case side2 => exact (Kd.V_reads' HO217.out).2.1); rintro e w70 ⟨rfl, hb⟩; have n0_ := Aside0.mk (Kd.R_below (by (with_reducible repeat (first | apply Kd.R_alloc | apply Kd.R_drewN | apply Kd.R_drew)); exact HO204.out) hb); have n1_ := Aside0.mk (Kd.V_below (by (with_reducible repeat (first | apply Kd.V_alloc | apply Kd.V_drewN | apply Kd.V_drew)); exact HO211.out) hb); have n2_ := Aside0.mk (Kd.V_below (by (with_reducible repeat (first | apply Kd.V_alloc | apply Kd.V_drewN | apply Kd.V_drew)); exact HO217.out) hb); have n3_ := Aside0.mk (blk_below (bk_ BK197) hb); have n4_ := Aside0.mk (blk_below (bk_ BK198) hb); have n5_ := Aside0.mk (blk_below (bk_ BK206) hb); have n6_ := Aside0.mk (below_step (bl_ HB) hb); clear HO204; clear HO211; clear HO217; clear BK197; clear BK198; clear BK206; clear HB; have HO204 := n0_; have HO211 := n1_; have HO217 := n2_; have BK197 := n3_; have BK198 := n4_; have BK206 := n5_; have HB := n6_; clear n0_ n1_ n2_ n3_ n4_ n5_ n6_; (try clear hb); (try clear hb2); (try clear hk); (try clear hi); have hcz71_0 : w70.cell? ⟨gb197, 0, none⟩ = some (.int .u64 a0_0) := (blk_cell BK197.out 0).trans rfl; have hcz71_1 : w70.cell? ⟨gb197, 1, none⟩ = some (.int .i64 a0_1) := (blk_cell BK197.out 1).trans rfl; have hcz71_2 : w70.cell? ⟨gb197, 2, none⟩ = some (.slice A0_2 l0_2.length c0_2) := (blk_cell BK197.out 2).trans rfl; have hfz71_0 := blk_frozen BK197.out 0; have hfz71_1 := blk_frozen BK197.out 1; have hfz71_2 := blk_frozen BK197.out 2; have hcz72_0 : w70.cell? ⟨gb198, 0, none⟩ = some (.int .u64 a1_0) := (blk_cell BK198.out 0).trans rfl; have hcz72_1 : w70.cell? ⟨gb198, 1, none⟩ = some (.int .i64 a1_1) := (blk_cell BK198.out 1).trans rfl; have hcz72_2 : w70.cell? ⟨gb198, 2, none⟩ = some (.slice A1_2 l1_2.length c1_2) := (blk_cell BK198.out 2).trans rfl; have hfz72_0 := blk_frozen BK198.out 0; have hfz72_1 := blk_frozen BK198.out 1; have hfz72_2 := blk_frozen BK198.out 2))
                repeat (go_quiet (first | (go_at_call 11; (with_reducible refine (rillmeterlaw10_ref.calls a0_0 a0_1 (fun k_ => k_ < w.heap.size) _ _ l0_2 t207 t208 t209 _ ?side1 A26.out).mono ?_); (case side1 => exact Kd.V_mk HC0_2.out (Kd.F_below (Kd.C_F Kd.heap_bool HR0_2.out) (bl_ HB))); rintro e w63 ⟨v210, rfl, ho0, hb⟩; have n0_ := Aside0.mk (Kd.R_below (by (with_reducible repeat (first | apply Kd.R_alloc | apply Kd.R_drewN | apply Kd.R_drew)); exact (Kd.R_mono (Kd.R_far (p := ⟨gb206, 2, none⟩) (Kd.R_far (p := ⟨gb206, 1, none⟩) (Kd.R_far (p := ⟨gb206, 0, none⟩) (Kd.R_types HO204.out BK206.out (by decide)) (fun _ hk => hk.2) (.int .u64 t200)) (fun _ hk => hk.2) (.int .i64 t201)) (fun _ hk => hk.2) (.slice Ao25 t202.length co25)) (fun _ h_ => h_.1))) hb); have n1_ := Aside0.mk (Kd.V_lower (Kd.V_mono (ok' := fun k_ => some k_ ≠ (.slice Ao25 t202.length co25 : Value).ownBlock ∧ k_ ≠ gb197 ∧ k_ ≠ gb198 ∧ k_ ≠ gb206) ho0 (fun k_ hk_ => ⟨Or.elim hk_ (fun hs_ => fun e_ => Nat.not_le.2 hs_ (Kd.R_base HO204.out k_ e_.symm)) (fun hn_ => (Kd.fresh' (Kd.R_lt (by (with_reducible repeat (first | apply Kd.R_alloc | apply Kd.R_drewN | apply Kd.R_drew)); exact (Kd.R_mono (Kd.R_far (p := ⟨gb206, 2, none⟩) (Kd.R_far (p := ⟨gb206, 1, none⟩) (Kd.R_far (p := ⟨gb206, 0, none⟩) (Kd.R_types HO204.out BK206.out (by decide)) (fun _ hk => hk.2) (.int .u64 t200)) (fun _ hk => hk.2) (.int .i64 t201)) (fun _ hk => hk.2) (.slice Ao25 t202.length co25)) (fun _ h_ => h_.1)))) k_ hn_)), Or.elim hk_ (fun hs_ => fun e_ => Nat.not_le.2 hs_ (by rw [e_]; exact GW197.out)) (fun hn_ => (Kd.freshB (g := gb197) (o := .cells #[.int .u64 a0_0, .int .i64 a0_1, .slice A0_2 l0_2.length c0_2] 25 (0, 0)) (by (with_reducible repeat (first | refine blk_drewN ?_ _ | refine blk_drew ?_ | refine blk_alloc ?_ _)); refine blk_far ?_ NB197_206.out _; (with_reducible repeat (first | refine blk_drewN ?_ _ | refine blk_drew ?_ | refine blk_alloc ?_ _)); refine blk_far ?_ NB197_206.out _; (with_reducible repeat (first | refine blk_drewN ?_ _ | refine blk_drew ?_ | refine blk_alloc ?_ _)); refine blk_far ?_ NB197_206.out _; (with_reducible repeat (first | refine blk_drewN ?_ _ | refine blk_drew ?_ | refine blk_alloc ?_ _)); exact BK197.out) k_ hn_)), Or.elim hk_ (fun hs_ => fun e_ => Nat.not_le.2 hs_ (by rw [e_]; exact GW198.out)) (fun hn_ => (Kd.freshB (g := gb198) (o := .cells #[.int .u64 a1_0, .int .i64 a1_1, .slice A1_2 l1_2.length c1_2] 25 (0, 0)) (by (with_reducible repeat (first | refine blk_drewN ?_ _ | refine blk_drew ?_ | refine blk_alloc ?_ _)); refine blk_far ?_ NB198_206.out _; (with_reducible repeat (first | refine blk_drewN ?_ _ | refine blk_drew ?_ | refine blk_alloc ?_ _)); refine blk_far ?_ NB198_206.out _; (with_reducible repeat (first | refine blk_drewN ?_ _ | refine blk_drew ?_ | refine blk_alloc ?_ _)); refine blk_far ?_ NB198_206.out _; (with_reducible repeat (first | refine blk_drewN ?_ _ | refine blk_drew ?_ | refine blk_alloc ?_ _)); exact BK198.out) k_ hn_)), Or.elim hk_ (fun hs_ => fun e_ => Nat.not_le.2 hs_ (by rw [e_]; exact GW206.out)) (fun hn_ => (Kd.freshB (g := gb206) (o := .cells #[.int .u64 t200, .int .i64 t201, .slice Ao25 t202.length co25] 25 (0, 0)) (by (with_reducible repeat (first | refine blk_drewN ?_ _ | refine blk_drew ?_ | refine blk_alloc ?_ _)); refine blk_put (cs := #[.int .u64 t200, .int .i64 t201, .slice none 0 0]) ?_ 2 _ rfl; (with_reducible repeat (first | refine blk_drewN ?_ _ | refine blk_drew ?_ | refine blk_alloc ?_ _)); refine blk_put (cs := #[.int .u64 t200, .int .i64 0, .slice none 0 0]) ?_ 1 _ rfl; (with_reducible repeat (first | refine blk_drewN ?_ _ | refine blk_drew ?_ | refine blk_alloc ?_ _)); refine blk_put (cs := #[.int .u64 0, .int .i64 0, .slice none 0 0]) ?_ 0 _ rfl; (with_reducible repeat (first | refine blk_drewN ?_ _ | refine blk_drew ?_ | refine blk_alloc ?_ _)); exact BK206.out) k_ hn_))⟩)) (below_size (bl_ HB))); have n2_ := Aside0.mk (blk_below (g := gb197) (o := .cells #[.int .u64 a0_0, .int .i64 a0_1, .slice A0_2 l0_2.length c0_2] 25 (0, 0)) (by (with_reducible repeat (first | refine blk_drewN ?_ _ | refine blk_drew ?_ | refine blk_alloc ?_ _)); refine blk_far ?_ NB197_206.out _; (with_reducible repeat (first | refine blk_drewN ?_ _ | refine blk_drew ?_ | refine blk_alloc ?_ _)); refine blk_far ?_ NB197_206.out _; (with_reducible repeat (first | refine blk_drewN ?_ _ | refine blk_drew ?_ | refine blk_alloc ?_ _)); refine blk_far ?_ NB197_206.out _; (with_reducible repeat (first | refine blk_drewN ?_ _ | refine blk_drew ?_ | refine blk_alloc ?_ _)); exact BK197.out) hb); have n3_ := Aside0.mk (blk_below (g := gb198) (o := .cells #[.int .u64 a1_0, .int .i64 a1_1, .slice A1_2 l1_2.length c1_2] 25 (0, 0)) (by (with_reducible repeat (first | refine blk_drewN ?_ _ | refine blk_drew ?_ | refine blk_alloc ?_ _)); refine blk_far ?_ NB198_206.out _; (with_reducible repeat (first | refine blk_drewN ?_ _ | refine blk_drew ?_ | refine blk_alloc ?_ _)); refine blk_far ?_ NB198_206.out _; (with_reducible repeat (first | refine blk_drewN ?_ _ | refine blk_drew ?_ | refine blk_alloc ?_ _)); refine blk_far ?_ NB198_206.out _; (with_reducible repeat (first | refine blk_drewN ?_ _ | refine blk_drew ?_ | refine blk_alloc ?_ _)); exact BK198.out) hb); have n4_ := Aside0.mk (blk_below (g := gb206) (o := .cells #[.int .u64 t200, .int .i64 t201, .slice Ao25 t202.length co25] 25 (0, 0)) (by (with_reducible repeat (first | refine blk_drewN ?_ _ | refine blk_drew ?_ | refine blk_alloc ?_ _)); refine blk_put (cs := #[.int .u64 t200, .int .i64 t201, .slice none 0 0]) ?_ 2 _ rfl; (with_reducible repeat (first | refine blk_drewN ?_ _ | refine blk_drew ?_ | refine blk_alloc ?_ _)); refine blk_put (cs := #[.int .u64 t200, .int .i64 0, .slice none 0 0]) ?_ 1 _ rfl; (with_reducible repeat (first | refine blk_drewN ?_ _ | refine blk_drew ?_ | refine blk_alloc ?_ _)); refine blk_put (cs := #[.int .u64 0, .int .i64 0, .slice none 0 0]) ?_ 0 _ rfl; (with_reducible repeat (first | refine blk_drewN ?_ _ | refine blk_drew ?_ | refine blk_alloc ?_ _)); exact BK206.out) hb); have n5_ := Aside0.mk (below_step (bl_ HB) hb); clear HO204; clear BK197; clear BK198; clear BK206; clear HB; have HO204 := n0_; have HO211 := n1_; have BK197 := n2_; have BK198 := n3_; have BK206 := n4_; have HB := n5_; clear n0_ n1_ n2_ n3_ n4_ n5_; (try clear hb); (try clear hb2); (try clear hk); (try clear hi); (try clear ho0); obtain ⟨Ao64, co64, eo64⟩ := Kd.V_slice HO211.out; subst eo64) | (go_at_call 18; (with_reducible refine (rillmeterref10_Right.calls t207 t208 _ _ t209 true _ ?side1 ?side2 A27.out).mono ?_); (case side1 => repeat (first | exact (Kd.V_reads' HO211.out).2.2 | (with_reducible refine Kd.C_alloc ?_ _) | (with_reducible refine Kd.C_drewN ?_ _) | (with_reducible refine Kd.C_drew ?_))); (case side2 => exact (Kd.V_reads' HO211.out).2.1); rintro e w65 ⟨rfl, hb⟩; have n0_ := Aside0.mk (Kd.R_below (by (with_reducible repeat (first | apply Kd.R_alloc | apply Kd.R_drewN | apply Kd.R_drew)); exact HO204.out) hb); have n1_ := Aside0.mk (Kd.V_below (by (with_reducible repeat (first | apply Kd.V_alloc | apply Kd.V_drewN | apply Kd.V_drew)); exact HO211.out) hb); have n2_ := Aside0.mk (blk_below (bk_ BK197) hb); have n3_ := Aside0.mk (blk_below (bk_ BK198) hb); have n4_ := Aside0.mk (blk_below (bk_ BK206) hb); have n5_ := Aside0.mk (below_step (bl_ HB) hb); clear HO204; clear HO211; clear BK197; clear BK198; clear BK206; clear HB; have HO204 := n0_; have HO211 := n1_; have BK197 := n2_; have BK198 := n3_; have BK206 := n4_; have HB := n5_; clear n0_ n1_ n2_ n3_ n4_ n5_; (try clear hb); (try clear hb2); (try clear hk); (try clear hi); have hnb66 := NB198_206.out; have hnc66 := NB206_198.out; have hcz67_0 : w65.cell? ⟨gb198, 0, none⟩ = some (.int .u64 a1_0) := (blk_cell BK198.out 0).trans rfl; have hcz67_1 : w65.cell? ⟨gb198, 1, none⟩ = some (.int .i64 a1_1) := (blk_cell BK198.out 1).trans rfl; have hcz67_2 : w65.cell? ⟨gb198, 2, none⟩ = some (.slice A1_2 l1_2.length c1_2) := (blk_cell BK198.out 2).trans rfl; have hfz67_0 := blk_frozen BK198.out 0; have hfz67_1 := blk_frozen BK198.out 1; have hfz67_2 := blk_frozen BK198.out 2) | (go_at_call 11; (with_reducible refine (rillmeterlaw10_ref.calls a1_0 a1_1 (fun k_ => k_ < w.heap.size) _ _ l1_2 t213 t214 t215 _ ?side1 A29.out).mono ?_); (case side1 => exact Kd.V_mk HC1_2.out (Kd.F_below (Kd.C_F Kd.heap_bool HR1_2.out) (bl_ HB))); rintro e w68 ⟨v216, rfl, ho0, hb⟩; have n0_ := Aside0.mk (Kd.R_below (by (with_reducible repeat (first | apply Kd.R_alloc | apply Kd.R_drewN | apply Kd.R_drew)); exact HO204.out) hb); have n1_ := Aside0.mk (Kd.V_below (by (with_reducible repeat (first | apply Kd.V_alloc | apply Kd.V_drewN | apply Kd.V_drew)); exact HO211.out) hb); have n2_ := Aside0.mk (Kd.V_lower (Kd.V_mono (ok' := fun k_ => some k_ ≠ (.slice Ao25 t202.length co25 : Value).ownBlock ∧ k_ ≠ gb197 ∧ k_ ≠ gb198 ∧ k_ ≠ gb206) ho0 (fun k_ hk_ => ⟨Or.elim hk_ (fun hs_ => fun e_ => Nat.not_le.2 hs_ (Kd.R_base HO204.out k_ e_.symm)) (fun hn_ => (Kd.fresh' (Kd.R_lt (by (with_reducible repeat (first | apply Kd.R_alloc | apply Kd.R_drewN | apply Kd.R_drew)); exact HO204.out)) k_ hn_)), Or.elim hk_ (fun hs_ => fun e_ => Nat.not_le.2 hs_ (by rw [e_]; exact GW197.out)) (fun hn_ => (Kd.freshB (g := gb197) (o := .cells #[.int .u64 a0_0, .int .i64 a0_1, .slice A0_2 l0_2.length c0_2] 25 (0, 0)) (bk_ BK197) k_ hn_)), Or.elim hk_ (fun hs_ => fun e_ => Nat.not_le.2 hs_ (by rw [e_]; exact GW198.out)) (fun hn_ => (Kd.freshB (g := gb198) (o := .cells #[.int .u64 a1_0, .int .i64 a1_1, .slice A1_2 l1_2.length c1_2] 25 (0, 0)) (bk_ BK198) k_ hn_)), Or.elim hk_ (fun hs_ => fun e_ => Nat.not_le.2 hs_ (by rw [e_]; exact GW206.out)) (fun hn_ => (Kd.freshB (g := gb206) (o := .cells #[.int .u64 t200, .int .i64 t201, .slice Ao25 t202.length co25] 25 (0, 0)) (bk_ BK206) k_ hn_))⟩)) (below_size (bl_ HB))); have n3_ := Aside0.mk (blk_below (bk_ BK197) hb); have n4_ := Aside0.mk (blk_below (bk_ BK198) hb); have n5_ := Aside0.mk (blk_below (bk_ BK206) hb); have n6_ := Aside0.mk (below_step (bl_ HB) hb); clear HO204; clear HO211; clear BK197; clear BK198; clear BK206; clear HB; have HO204 := n0_; have HO211 := n1_; have HO217 := n2_; have BK197 := n3_; have BK198 := n4_; have BK206 := n5_; have HB := n6_; clear n0_ n1_ n2_ n3_ n4_ n5_ n6_; (try clear hb); (try clear hb2); (try clear hk); (try clear hi); (try clear ho0); obtain ⟨Ao69, co69, eo69⟩ := Kd.V_slice HO217.out; subst eo69) | (go_at_call 18; (with_reducible refine (rillmeterref10_Right.calls t213 t214 _ _ t215 true _ ?side1 ?side2 A30.out).mono ?_); (case side1 => repeat (first | exact (Kd.V_reads' HO217.out).2.2 | (with_reducible refine Kd.C_alloc ?_ _) | (with_reducible refine Kd.C_drewN ?_ _) | (with_reducible refine Kd.C_drew ?_))); (case side2 => exact (Kd.V_reads' HO217.out).2.1); rintro e w70 ⟨rfl, hb⟩; have n0_ := Aside0.mk (Kd.R_below (by (with_reducible repeat (first | apply Kd.R_alloc | apply Kd.R_drewN | apply Kd.R_drew)); exact HO204.out) hb); have n1_ := Aside0.mk (Kd.V_below (by (with_reducible repeat (first | apply Kd.V_alloc | apply Kd.V_drewN | apply Kd.V_drew)); exact HO211.out) hb); have n2_ := Aside0.mk (Kd.V_below (by (with_reducible repeat (first | apply Kd.V_alloc | apply Kd.V_drewN | apply Kd.V_drew)); exact HO217.out) hb); have n3_ := Aside0.mk (blk_below (bk_ BK197) hb); have n4_ := Aside0.mk (blk_below (bk_ BK198) hb); have n5_ := Aside0.mk (blk_below (bk_ BK206) hb); have n6_ := Aside0.mk (below_step (bl_ HB) hb); clear HO204; clear HO211; clear HO217; clear BK197; clear BK198; clear BK206; clear HB; have HO204 := n0_; have HO211 := n1_; have HO217 := n2_; have BK197 := n3_; have BK198 := n4_; have BK206 := n5_; have HB := n6_; clear n0_ n1_ n2_ n3_ n4_ n5_ n6_; (try clear hb); (try clear hb2); (try clear hk); (try clear hi); have hcz71_0 : w70.cell? ⟨gb197, 0, none⟩ = some (.int .u64 a0_0) := (blk_cell BK197.out 0).trans rfl; have hcz71_1 : w70.cell? ⟨gb197, 1, none⟩ = some (.int .i64 a0_1) := (blk_cell BK197.out 1).trans rfl; have hcz71_2 : w70.cell? ⟨gb197, 2, none⟩ = some (.slice A0_2 l0_2.length c0_2) := (blk_cell BK197.out 2).trans rfl; have hfz71_0 := blk_frozen BK197.out 0; have hfz71_1 := blk_frozen BK197.out 1; have hfz71_2 := blk_frozen BK197.out 2; have hcz72_0 : w70.cell? ⟨gb198, 0, none⟩ = some (.int .u64 a1_0) := (blk_cell BK198.out 0).trans rfl; have hcz72_1 : w70.cell? ⟨gb198, 1, none⟩ = some (.int .i64 a1_1) := (blk_cell BK198.out 1).trans rfl; have hcz72_2 : w70.cell? ⟨gb198, 2, none⟩ = some (.slice A1_2 l1_2.length c1_2) := (blk_cell BK198.out 2).trans rfl; have hfz72_0 := blk_frozen BK198.out 0; have hfz72_1 := blk_frozen BK198.out 1; have hfz72_2 := blk_frozen BK198.out 2)); try go_wp2_with (first | (go_at_call 11; (with_reducible refine (rillmeterlaw10_ref.calls a0_0 a0_1 (fun k_ => k_ < w.heap.size) _ _ l0_2 t207 t208 t209 _ ?side1 A26.out).mono ?_); (case side1 => exact Kd.V_mk HC0_2.out (Kd.F_below (Kd.C_F Kd.heap_bool HR0_2.out) (bl_ HB))); rintro e w63 ⟨v210, rfl, ho0, hb⟩; have n0_ := Aside0.mk (Kd.R_below (by (with_reducible repeat (first | apply Kd.R_alloc | apply Kd.R_drewN | apply Kd.R_drew)); exact (Kd.R_mono (Kd.R_far (p := ⟨gb206, 2, none⟩) (Kd.R_far (p := ⟨gb206, 1, none⟩) (Kd.R_far (p := ⟨gb206, 0, none⟩) (Kd.R_types HO204.out BK206.out (by decide)) (fun _ hk => hk.2) (.int .u64 t200)) (fun _ hk => hk.2) (.int .i64 t201)) (fun _ hk => hk.2) (.slice Ao25 t202.length co25)) (fun _ h_ => h_.1))) hb); have n1_ := Aside0.mk (Kd.V_lower (Kd.V_mono (ok' := fun k_ => some k_ ≠ (.slice Ao25 t202.length co25 : Value).ownBlock ∧ k_ ≠ gb197 ∧ k_ ≠ gb198 ∧ k_ ≠ gb206) ho0 (fun k_ hk_ => ⟨Or.elim hk_ (fun hs_ => fun e_ => Nat.not_le.2 hs_ (Kd.R_base HO204.out k_ e_.symm)) (fun hn_ => (Kd.fresh' (Kd.R_lt (by (with_reducible repeat (first | apply Kd.R_alloc | apply Kd.R_drewN | apply Kd.R_drew)); exact (Kd.R_mono (Kd.R_far (p := ⟨gb206, 2, none⟩) (Kd.R_far (p := ⟨gb206, 1, none⟩) (Kd.R_far (p := ⟨gb206, 0, none⟩) (Kd.R_types HO204.out BK206.out (by decide)) (fun _ hk => hk.2) (.int .u64 t200)) (fun _ hk => hk.2) (.int .i64 t201)) (fun _ hk => hk.2) (.slice Ao25 t202.length co25)) (fun _ h_ => h_.1)))) k_ hn_)), Or.elim hk_ (fun hs_ => fun e_ => Nat.not_le.2 hs_ (by rw [e_]; exact GW197.out)) (fun hn_ => (Kd.freshB (g := gb197) (o := .cells #[.int .u64 a0_0, .int .i64 a0_1, .slice A0_2 l0_2.length c0_2] 25 (0, 0)) (by (with_reducible repeat (first | refine blk_drewN ?_ _ | refine blk_drew ?_ | refine blk_alloc ?_ _)); refine blk_far ?_ NB197_206.out _; (with_reducible repeat (first | refine blk_drewN ?_ _ | refine blk_drew ?_ | refine blk_alloc ?_ _)); refine blk_far ?_ NB197_206.out _; (with_reducible repeat (first | refine blk_drewN ?_ _ | refine blk_drew ?_ | refine blk_alloc ?_ _)); refine blk_far ?_ NB197_206.out _; (with_reducible repeat (first | refine blk_drewN ?_ _ | refine blk_drew ?_ | refine blk_alloc ?_ _)); exact BK197.out) k_ hn_)), Or.elim hk_ (fun hs_ => fun e_ => Nat.not_le.2 hs_ (by rw [e_]; exact GW198.out)) (fun hn_ => (Kd.freshB (g := gb198) (o := .cells #[.int .u64 a1_0, .int .i64 a1_1, .slice A1_2 l1_2.length c1_2] 25 (0, 0)) (by (with_reducible repeat (first | refine blk_drewN ?_ _ | refine blk_drew ?_ | refine blk_alloc ?_ _)); refine blk_far ?_ NB198_206.out _; (with_reducible repeat (first | refine blk_drewN ?_ _ | refine blk_drew ?_ | refine blk_alloc ?_ _)); refine blk_far ?_ NB198_206.out _; (with_reducible repeat (first | refine blk_drewN ?_ _ | refine blk_drew ?_ | refine blk_alloc ?_ _)); refine blk_far ?_ NB198_206.out _; (with_reducible repeat (first | refine blk_drewN ?_ _ | refine blk_drew ?_ | refine blk_alloc ?_ _)); exact BK198.out) k_ hn_)), Or.elim hk_ (fun hs_ => fun e_ => Nat.not_le.2 hs_ (by rw [e_]; exact GW206.out)) (fun hn_ => (Kd.freshB (g := gb206) (o := .cells #[.int .u64 t200, .int .i64 t201, .slice Ao25 t202.length co25] 25 (0, 0)) (by (with_reducible repeat (first | refine blk_drewN ?_ _ | refine blk_drew ?_ | refine blk_alloc ?_ _)); refine blk_put (cs := #[.int .u64 t200, .int .i64 t201, .slice none 0 0]) ?_ 2 _ rfl; (with_reducible repeat (first | refine blk_drewN ?_ _ | refine blk_drew ?_ | refine blk_alloc ?_ _)); refine blk_put (cs := #[.int .u64 t200, .int .i64 0, .slice none 0 0]) ?_ 1 _ rfl; (with_reducible repeat (first | refine blk_drewN ?_ _ | refine blk_drew ?_ | refine blk_alloc ?_ _)); refine blk_put (cs := #[.int .u64 0, .int .i64 0, .slice none 0 0]) ?_ 0 _ rfl; (with_reducible repeat (first | refine blk_drewN ?_ _ | refine blk_drew ?_ | refine blk_alloc ?_ _)); exact BK206.out) k_ hn_))⟩)) (below_size (bl_ HB))); have n2_ := Aside0.mk (blk_below (g := gb197) (o := .cells #[.int .u64 a0_0, .int .i64 a0_1, .slice A0_2 l0_2.length c0_2] 25 (0, 0)) (by (with_reducible repeat (first | refine blk_drewN ?_ _ | refine blk_drew ?_ | refine blk_alloc ?_ _)); refine blk_far ?_ NB197_206.out _; (with_reducible repeat (first | refine blk_drewN ?_ _ | refine blk_drew ?_ | refine blk_alloc ?_ _)); refine blk_far ?_ NB197_206.out _; (with_reducible repeat (first | refine blk_drewN ?_ _ | refine blk_drew ?_ | refine blk_alloc ?_ _)); refine blk_far ?_ NB197_206.out _; (with_reducible repeat (first | refine blk_drewN ?_ _ | refine blk_drew ?_ | refine blk_alloc ?_ _)); exact BK197.out) hb); have n3_ := Aside0.mk (blk_below (g := gb198) (o := .cells #[.int .u64 a1_0, .int .i64 a1_1, .slice A1_2 l1_2.length c1_2] 25 (0, 0)) (by (with_reducible repeat (first | refine blk_drewN ?_ _ | refine blk_drew ?_ | refine blk_alloc ?_ _)); refine blk_far ?_ NB198_206.out _; (with_reducible repeat (first | refine blk_drewN ?_ _ | refine blk_drew ?_ | refine blk_alloc ?_ _)); refine blk_far ?_ NB198_206.out _; (with_reducible repeat (first | refine blk_drewN ?_ _ | refine blk_drew ?_ | refine blk_alloc ?_ _)); refine blk_far ?_ NB198_206.out _; (with_reducible repeat (first | refine blk_drewN ?_ _ | refine blk_drew ?_ | refine blk_alloc ?_ _)); exact BK198.out) hb); have n4_ := Aside0.mk (blk_below (g := gb206) (o := .cells #[.int .u64 t200, .int .i64 t201, .slice Ao25 t202.length co25] 25 (0, 0)) (by (with_reducible repeat (first | refine blk_drewN ?_ _ | refine blk_drew ?_ | refine blk_alloc ?_ _)); refine blk_put (cs := #[.int .u64 t200, .int .i64 t201, .slice none 0 0]) ?_ 2 _ rfl; (with_reducible repeat (first | refine blk_drewN ?_ _ | refine blk_drew ?_ | refine blk_alloc ?_ _)); refine blk_put (cs := #[.int .u64 t200, .int .i64 0, .slice none 0 0]) ?_ 1 _ rfl; (with_reducible repeat (first | refine blk_drewN ?_ _ | refine blk_drew ?_ | refine blk_alloc ?_ _)); refine blk_put (cs := #[.int .u64 0, .int .i64 0, .slice none 0 0]) ?_ 0 _ rfl; (with_reducible repeat (first | refine blk_drewN ?_ _ | refine blk_drew ?_ | refine blk_alloc ?_ _)); exact BK206.out) hb); have n5_ := Aside0.mk (below_step (bl_ HB) hb); clear HO204; clear BK197; clear BK198; clear BK206; clear HB; have HO204 := n0_; have HO211 := n1_; have BK197 := n2_; have BK198 := n3_; have BK206 := n4_; have HB := n5_; clear n0_ n1_ n2_ n3_ n4_ n5_; (try clear hb); (try clear hb2); (try clear hk); (try clear hi); (try clear ho0); obtain ⟨Ao64, co64, eo64⟩ := Kd.V_slice HO211.out; subst eo64) | (go_at_call 18; (with_reducible refine (rillmeterref10_Right.calls t207 t208 _ _ t209 true _ ?side1 ?side2 A27.out).mono ?_); (case side1 => repeat (first | exact (Kd.V_reads' HO211.out).2.2 | (with_reducible refine Kd.C_alloc ?_ _) | (with_reducible refine Kd.C_drewN ?_ _) | (with_reducible refine Kd.C_drew ?_))); (case side2 => exact (Kd.V_reads' HO211.out).2.1); rintro e w65 ⟨rfl, hb⟩; have n0_ := Aside0.mk (Kd.R_below (by (with_reducible repeat (first | apply Kd.R_alloc | apply Kd.R_drewN | apply Kd.R_drew)); exact HO204.out) hb); have n1_ := Aside0.mk (Kd.V_below (by (with_reducible repeat (first | apply Kd.V_alloc | apply Kd.V_drewN | apply Kd.V_drew)); exact HO211.out) hb); have n2_ := Aside0.mk (blk_below (bk_ BK197) hb); have n3_ := Aside0.mk (blk_below (bk_ BK198) hb); have n4_ := Aside0.mk (blk_below (bk_ BK206) hb); have n5_ := Aside0.mk (below_step (bl_ HB) hb); clear HO204; clear HO211; clear BK197; clear BK198; clear BK206; clear HB; have HO204 := n0_; have HO211 := n1_; have BK197 := n2_; have BK198 := n3_; have BK206 := n4_; have HB := n5_; clear n0_ n1_ n2_ n3_ n4_ n5_; (try clear hb); (try clear hb2); (try clear hk); (try clear hi); have hnb66 := NB198_206.out; have hnc66 := NB206_198.out; have hcz67_0 : w65.cell? ⟨gb198, 0, none⟩ = some (.int .u64 a1_0) := (blk_cell BK198.out 0).trans rfl; have hcz67_1 : w65.cell? ⟨gb198, 1, none⟩ = some (.int .i64 a1_1) := (blk_cell BK198.out 1).trans rfl; have hcz67_2 : w65.cell? ⟨gb198, 2, none⟩ = some (.slice A1_2 l1_2.length c1_2) := (blk_cell BK198.out 2).trans rfl; have hfz67_0 := blk_frozen BK198.out 0; have hfz67_1 := blk_frozen BK198.out 1; have hfz67_2 := blk_frozen BK198.out 2) | (go_at_call 11; (with_reducible refine (rillmeterlaw10_ref.calls a1_0 a1_1 (fun k_ => k_ < w.heap.size) _ _ l1_2 t213 t214 t215 _ ?side1 A29.out).mono ?_); (case side1 => exact Kd.V_mk HC1_2.out (Kd.F_below (Kd.C_F Kd.heap_bool HR1_2.out) (bl_ HB))); rintro e w68 ⟨v216, rfl, ho0, hb⟩; have n0_ := Aside0.mk (Kd.R_below (by (with_reducible repeat (first | apply Kd.R_alloc | apply Kd.R_drewN | apply Kd.R_drew)); exact HO204.out) hb); have n1_ := Aside0.mk (Kd.V_below (by (with_reducible repeat (first | apply Kd.V_alloc | apply Kd.V_drewN | apply Kd.V_drew)); exact HO211.out) hb); have n2_ := Aside0.mk (Kd.V_lower (Kd.V_mono (ok' := fun k_ => some k_ ≠ (.slice Ao25 t202.length co25 : Value).ownBlock ∧ k_ ≠ gb197 ∧ k_ ≠ gb198 ∧ k_ ≠ gb206) ho0 (fun k_ hk_ => ⟨Or.elim hk_ (fun hs_ => fun e_ => Nat.not_le.2 hs_ (Kd.R_base HO204.out k_ e_.symm)) (fun hn_ => (Kd.fresh' (Kd.R_lt (by (with_reducible repeat (first | apply Kd.R_alloc | apply Kd.R_drewN | apply Kd.R_drew)); exact HO204.out)) k_ hn_)), Or.elim hk_ (fun hs_ => fun e_ => Nat.not_le.2 hs_ (by rw [e_]; exact GW197.out)) (fun hn_ => (Kd.freshB (g := gb197) (o := .cells #[.int .u64 a0_0, .int .i64 a0_1, .slice A0_2 l0_2.length c0_2] 25 (0, 0)) (bk_ BK197) k_ hn_)), Or.elim hk_ (fun hs_ => fun e_ => Nat.not_le.2 hs_ (by rw [e_]; exact GW198.out)) (fun hn_ => (Kd.freshB (g := gb198) (o := .cells #[.int .u64 a1_0, .int .i64 a1_1, .slice A1_2 l1_2.length c1_2] 25 (0, 0)) (bk_ BK198) k_ hn_)), Or.elim hk_ (fun hs_ => fun e_ => Nat.not_le.2 hs_ (by rw [e_]; exact GW206.out)) (fun hn_ => (Kd.freshB (g := gb206) (o := .cells #[.int .u64 t200, .int .i64 t201, .slice Ao25 t202.length co25] 25 (0, 0)) (bk_ BK206) k_ hn_))⟩)) (below_size (bl_ HB))); have n3_ := Aside0.mk (blk_below (bk_ BK197) hb); have n4_ := Aside0.mk (blk_below (bk_ BK198) hb); have n5_ := Aside0.mk (blk_below (bk_ BK206) hb); have n6_ := Aside0.mk (below_step (bl_ HB) hb); clear HO204; clear HO211; clear BK197; clear BK198; clear BK206; clear HB; have HO204 := n0_; have HO211 := n1_; have HO217 := n2_; have BK197 := n3_; have BK198 := n4_; have BK206 := n5_; have HB := n6_; clear n0_ n1_ n2_ n3_ n4_ n5_ n6_; (try clear hb); (try clear hb2); (try clear hk); (try clear hi); (try clear ho0); obtain ⟨Ao69, co69, eo69⟩ := Kd.V_slice HO217.out; subst eo69) | (go_at_call 18; (with_reducible refine (rillmeterref10_Right.calls t213 t214 _ _ t215 true _ ?side1 ?side2 A30.out).mono ?_); (case side1 => repeat (first | exact (Kd.V_reads' HO217.out).2.2 | (with_reducible refine Kd.C_alloc ?_ _) | (with_reducible refine Kd.C_drewN ?_ _) | (with_reducible refine Kd.C_drew ?_))); (case side2 => exact (Kd.V_reads' HO217.out).2.1); rintro e w70 ⟨rfl, hb⟩; have n0_ := Aside0.mk (Kd.R_below (by (with_reducible repeat (first | apply Kd.R_alloc | apply Kd.R_drewN | apply Kd.R_drew)); exact HO204.out) hb); have n1_ := Aside0.mk (Kd.V_below (by (with_reducible repeat (first | apply Kd.V_alloc | apply Kd.V_drewN | apply Kd.V_drew)); exact HO211.out) hb); have n2_ := Aside0.mk (Kd.V_below (by (with_reducible repeat (first | apply Kd.V_alloc | apply Kd.V_drewN | apply Kd.V_drew)); exact HO217.out) hb); have n3_ := Aside0.mk (blk_below (bk_ BK197) hb); have n4_ := Aside0.mk (blk_below (bk_ BK198) hb); have n5_ := Aside0.mk (blk_below (bk_ BK206) hb); have n6_ := Aside0.mk (below_step (bl_ HB) hb); clear HO204; clear HO211; clear HO217; clear BK197; clear BK198; clear BK206; clear HB; have HO204 := n0_; have HO211 := n1_; have HO217 := n2_; have BK197 := n3_; have BK198 := n4_; have BK206 := n5_; have HB := n6_; clear n0_ n1_ n2_ n3_ n4_ n5_ n6_; (try clear hb); (try clear hb2); (try clear hk); (try clear hi); have hcz71_0 : w70.cell? ⟨gb197, 0, none⟩ = some (.int .u64 a0_0) := (blk_cell BK197.out 0).trans rfl; have hcz71_1 : w70.cell? ⟨gb197, 1, none⟩ = some (.int .i64 a0_1) := (blk_cell BK197.out 1).trans rfl; have hcz71_2 : w70.cell? ⟨gb197, 2, none⟩ = some (.slice A0_2 l0_2.length c0_2) := (blk_cell BK197.out 2).trans rfl; have hfz71_0 := blk_frozen BK197.out 0; have hfz71_1 := blk_frozen BK197.out 1; have hfz71_2 := blk_frozen BK197.out 2; have hcz72_0 : w70.cell? ⟨gb198, 0, none⟩ = some (.int .u64 a1_0) := (blk_cell BK198.out 0).trans rfl; have hcz72_1 : w70.cell? ⟨gb198, 1, none⟩ = some (.int .i64 a1_1) := (blk_cell BK198.out 1).trans rfl; have hcz72_2 : w70.cell? ⟨gb198, 2, none⟩ = some (.slice A1_2 l1_2.length c1_2) := (blk_cell BK198.out 2).trans rfl; have hfz72_0 := blk_frozen BK198.out 0; have hfz72_1 := blk_frozen BK198.out 1; have hfz72_2 := blk_frozen BK198.out 2)))
                go_meet
                case rel => exact ⟨_, (true), (by first | rfl | (simp; done) | (simp [*]; done)), H', ⟨by have := HJ2.out; first | omega | exact Nat.le_refl _⟩, ⟨by (with_reducible repeat (first | apply Kd.R_alloc | apply Kd.R_drewN | apply Kd.R_drew)); exact HO204.out⟩, ⟨bk_ BK197⟩, ⟨bk_ BK198⟩, ⟨bk_ BK206⟩, ⟨bl_ HB⟩⟩
            · replace c31 := Bool.eq_false_iff.mpr c31
              subst c31
              have H1 : (rillmeterlaw10_BloomMerges.j1 kj2 t205 true a0_0 a0_1 l0_2 a1_0 a1_1 l1_2 t200 t201 t202) = some r := by rw [if_neg (show ¬ (false = true) by decide)] at H; exact H
              clear H
              have H := H1
              clear H1
              have H' := Aside0.mk H
              clear H
              have hnb73 := NB197_198.out
              have hnc73 := NB198_197.out
              have hnb74 := NB197_206.out
              have hnc74 := NB206_197.out
              have hcz75_0 : w21.cell? ⟨gb197, 0, none⟩ = some (.int .u64 a0_0) := (blk_cell BK197.out 0).trans rfl
              have hcz75_1 : w21.cell? ⟨gb197, 1, none⟩ = some (.int .i64 a0_1) := (blk_cell BK197.out 1).trans rfl
              have hcz75_2 : w21.cell? ⟨gb197, 2, none⟩ = some (.slice A0_2 l0_2.length c0_2) := (blk_cell BK197.out 2).trans rfl
              have hfz75_0 := blk_frozen BK197.out 0
              have hfz75_1 := blk_frozen BK197.out 1
              have hfz75_2 := blk_frozen BK197.out 2
              go_wp2_with (first | (go_at_call 11; (with_reducible refine (rillmeterlaw10_ref.calls a0_0 a0_1 (fun k_ => k_ < w.heap.size) _ _ l0_2 t207 t208 t209 _ ?side1 A26.out).mono ?_); (case side1 => exact Kd.V_mk HC0_2.out (Kd.F_below (Kd.C_F Kd.heap_bool HR0_2.out) (bl_ HB))); rintro e w76 ⟨v210, rfl, ho0, hb⟩; have n0_ := Aside0.mk (Kd.R_below (by (with_reducible repeat (first | apply Kd.R_alloc | apply Kd.R_drewN | apply Kd.R_drew)); exact (Kd.R_mono (Kd.R_far (p := ⟨gb206, 2, none⟩) (Kd.R_far (p := ⟨gb206, 1, none⟩) (Kd.R_far (p := ⟨gb206, 0, none⟩) (Kd.R_types HO204.out BK206.out (by decide)) (fun _ hk => hk.2) (.int .u64 t200)) (fun _ hk => hk.2) (.int .i64 t201)) (fun _ hk => hk.2) (.slice Ao25 t202.length co25)) (fun _ h_ => h_.1))) hb); have n1_ := Aside0.mk (Kd.V_lower (Kd.V_mono (ok' := fun k_ => some k_ ≠ (.slice Ao25 t202.length co25 : Value).ownBlock ∧ k_ ≠ gb197 ∧ k_ ≠ gb198 ∧ k_ ≠ gb206) ho0 (fun k_ hk_ => ⟨Or.elim hk_ (fun hs_ => fun e_ => Nat.not_le.2 hs_ (Kd.R_base HO204.out k_ e_.symm)) (fun hn_ => (Kd.fresh' (Kd.R_lt (by (with_reducible repeat (first | apply Kd.R_alloc | apply Kd.R_drewN | apply Kd.R_drew)); exact (Kd.R_mono (Kd.R_far (p := ⟨gb206, 2, none⟩) (Kd.R_far (p := ⟨gb206, 1, none⟩) (Kd.R_far (p := ⟨gb206, 0, none⟩) (Kd.R_types HO204.out BK206.out (by decide)) (fun _ hk => hk.2) (.int .u64 t200)) (fun _ hk => hk.2) (.int .i64 t201)) (fun _ hk => hk.2) (.slice Ao25 t202.length co25)) (fun _ h_ => h_.1)))) k_ hn_)), Or.elim hk_ (fun hs_ => fun e_ => Nat.not_le.2 hs_ (by rw [e_]; exact GW197.out)) (fun hn_ => (Kd.freshB (g := gb197) (o := .cells #[.int .u64 a0_0, .int .i64 a0_1, .slice A0_2 l0_2.length c0_2] 25 (0, 0)) (by (with_reducible repeat (first | refine blk_drewN ?_ _ | refine blk_drew ?_ | refine blk_alloc ?_ _)); refine blk_far ?_ NB197_206.out _; (with_reducible repeat (first | refine blk_drewN ?_ _ | refine blk_drew ?_ | refine blk_alloc ?_ _)); refine blk_far ?_ NB197_206.out _; (with_reducible repeat (first | refine blk_drewN ?_ _ | refine blk_drew ?_ | refine blk_alloc ?_ _)); refine blk_far ?_ NB197_206.out _; (with_reducible repeat (first | refine blk_drewN ?_ _ | refine blk_drew ?_ | refine blk_alloc ?_ _)); exact BK197.out) k_ hn_)), Or.elim hk_ (fun hs_ => fun e_ => Nat.not_le.2 hs_ (by rw [e_]; exact GW198.out)) (fun hn_ => (Kd.freshB (g := gb198) (o := .cells #[.int .u64 a1_0, .int .i64 a1_1, .slice A1_2 l1_2.length c1_2] 25 (0, 0)) (by (with_reducible repeat (first | refine blk_drewN ?_ _ | refine blk_drew ?_ | refine blk_alloc ?_ _)); refine blk_far ?_ NB198_206.out _; (with_reducible repeat (first | refine blk_drewN ?_ _ | refine blk_drew ?_ | refine blk_alloc ?_ _)); refine blk_far ?_ NB198_206.out _; (with_reducible repeat (first | refine blk_drewN ?_ _ | refine blk_drew ?_ | refine blk_alloc ?_ _)); refine blk_far ?_ NB198_206.out _; (with_reducible repeat (first | refine blk_drewN ?_ _ | refine blk_drew ?_ | refine blk_alloc ?_ _)); exact BK198.out) k_ hn_)), Or.elim hk_ (fun hs_ => fun e_ => Nat.not_le.2 hs_ (by rw [e_]; exact GW206.out)) (fun hn_ => (Kd.freshB (g := gb206) (o := .cells #[.int .u64 t200, .int .i64 t201, .slice Ao25 t202.length co25] 25 (0, 0)) (by (with_reducible repeat (first | refine blk_drewN ?_ _ | refine blk_drew ?_ | refine blk_alloc ?_ _)); refine blk_put (cs := #[.int .u64 t200, .int .i64 t201, .slice none 0 0]) ?_ 2 _ rfl; (with_reducible repeat (first | refine blk_drewN ?_ _ | refine blk_drew ?_ | refine blk_alloc ?_ _)); refine blk_put (cs := #[.int .u64 t200, .int .i64 0, .slice none 0 0]) ?_ 1 _ rfl; (with_reducible repeat (first | refine blk_drewN ?_ _ | refine blk_drew ?_ | refine blk_alloc ?_ _)); refine blk_put (cs := #[.int .u64 0, .int .i64 0, .slice none 0 0]) ?_ 0 _ rfl; (with_reducible repeat (first | refine blk_drewN ?_ _ | refine blk_drew ?_ | refine blk_alloc ?_ _)); exact BK206.out) k_ hn_))⟩)) (below_size (bl_ HB))); have n2_ := Aside0.mk (blk_below (g := gb197) (o := .cells #[.int .u64 a0_0, .int .i64 a0_1, .slice A0_2 l0_2.length c0_2] 25 (0, 0)) (by (with_reducible repeat (first | refine blk_drewN ?_ _ | refine blk_drew ?_ | refine blk_alloc ?_ _)); refine blk_far ?_ NB197_206.out _; (with_reducible repeat (first | refine blk_drewN ?_ _ | refine blk_drew ?_ | refine blk_alloc ?_ _)); refine blk_far ?_ NB197_206.out _; (with_reducible repeat (first | refine blk_drewN ?_ _ | refine blk_drew ?_ | refine blk_alloc ?_ _)); refine blk_far ?_ NB197_206.out _; (with_reducible repeat (first | refine blk_drewN ?_ _ | refine blk_drew ?_ | refine blk_alloc ?_ _)); exact BK197.out) hb); have n3_ := Aside0.mk (blk_below (g := gb198) (o := .cells #[.int .u64 a1_0, .int .i64 a1_1, .slice A1_2 l1_2.length c1_2] 25 (0, 0)) (by (with_reducible repeat (first | refine blk_drewN ?_ _ | refine blk_drew ?_ | refine blk_alloc ?_ _)); refine blk_far ?_ NB198_206.out _; (with_reducible repeat (first | refine blk_drewN ?_ _ | refine blk_drew ?_ | refine blk_alloc ?_ _)); refine blk_far ?_ NB198_206.out _; (with_reducible repeat (first | refine blk_drewN ?_ _ | refine blk_drew ?_ | refine blk_alloc ?_ _)); refine blk_far ?_ NB198_206.out _; (with_reducible repeat (first | refine blk_drewN ?_ _ | refine blk_drew ?_ | refine blk_alloc ?_ _)); exact BK198.out) hb); have n4_ := Aside0.mk (blk_below (g := gb206) (o := .cells #[.int .u64 t200, .int .i64 t201, .slice Ao25 t202.length co25] 25 (0, 0)) (by (with_reducible repeat (first | refine blk_drewN ?_ _ | refine blk_drew ?_ | refine blk_alloc ?_ _)); refine blk_put (cs := #[.int .u64 t200, .int .i64 t201, .slice none 0 0]) ?_ 2 _ rfl; (with_reducible repeat (first | refine blk_drewN ?_ _ | refine blk_drew ?_ | refine blk_alloc ?_ _)); refine blk_put (cs := #[.int .u64 t200, .int .i64 0, .slice none 0 0]) ?_ 1 _ rfl; (with_reducible repeat (first | refine blk_drewN ?_ _ | refine blk_drew ?_ | refine blk_alloc ?_ _)); refine blk_put (cs := #[.int .u64 0, .int .i64 0, .slice none 0 0]) ?_ 0 _ rfl; (with_reducible repeat (first | refine blk_drewN ?_ _ | refine blk_drew ?_ | refine blk_alloc ?_ _)); exact BK206.out) hb); have n5_ := Aside0.mk (below_step (bl_ HB) hb); clear HO204; clear BK197; clear BK198; clear BK206; clear HB; have HO204 := n0_; have HO211 := n1_; have BK197 := n2_; have BK198 := n3_; have BK206 := n4_; have HB := n5_; clear n0_ n1_ n2_ n3_ n4_ n5_; (try clear hb); (try clear hb2); (try clear hk); (try clear hi); (try clear ho0); obtain ⟨Ao77, co77, eo77⟩ := Kd.V_slice HO211.out; subst eo77) | (go_at_call 18; (with_reducible refine (rillmeterref10_Right.calls t207 t208 _ _ t209 true _ ?side1 ?side2 A27.out).mono ?_); (case side1 => repeat (first | exact (Kd.V_reads' HO211.out).2.2 | (with_reducible refine Kd.C_alloc ?_ _) | (with_reducible refine Kd.C_drewN ?_ _) | (with_reducible refine Kd.C_drew ?_))); (case side2 => exact (Kd.V_reads' HO211.out).2.1); rintro e w78 ⟨rfl, hb⟩; have n0_ := Aside0.mk (Kd.R_below (by (with_reducible repeat (first | apply Kd.R_alloc | apply Kd.R_drewN | apply Kd.R_drew)); exact HO204.out) hb); have n1_ := Aside0.mk (Kd.V_below (by (with_reducible repeat (first | apply Kd.V_alloc | apply Kd.V_drewN | apply Kd.V_drew)); exact HO211.out) hb); have n2_ := Aside0.mk (blk_below (bk_ BK197) hb); have n3_ := Aside0.mk (blk_below (bk_ BK198) hb); have n4_ := Aside0.mk (blk_below (bk_ BK206) hb); have n5_ := Aside0.mk (below_step (bl_ HB) hb); clear HO204; clear HO211; clear BK197; clear BK198; clear BK206; clear HB; have HO204 := n0_; have HO211 := n1_; have BK197 := n2_; have BK198 := n3_; have BK206 := n4_; have HB := n5_; clear n0_ n1_ n2_ n3_ n4_ n5_; (try clear hb); (try clear hb2); (try clear hk); (try clear hi); have hnb79 := NB198_206.out; have hnc79 := NB206_198.out; have hcz80_0 : w78.cell? ⟨gb198, 0, none⟩ = some (.int .u64 a1_0) := (blk_cell BK198.out 0).trans rfl; have hcz80_1 : w78.cell? ⟨gb198, 1, none⟩ = some (.int .i64 a1_1) := (blk_cell BK198.out 1).trans rfl; have hcz80_2 : w78.cell? ⟨gb198, 2, none⟩ = some (.slice A1_2 l1_2.length c1_2) := (blk_cell BK198.out 2).trans rfl; have hfz80_0 := blk_frozen BK198.out 0; have hfz80_1 := blk_frozen BK198.out 1; have hfz80_2 := blk_frozen BK198.out 2) | (go_at_call 11; (with_reducible refine (rillmeterlaw10_ref.calls a1_0 a1_1 (fun k_ => k_ < w.heap.size) _ _ l1_2 t213 t214 t215 _ ?side1 A29.out).mono ?_); (case side1 => exact Kd.V_mk HC1_2.out (Kd.F_below (Kd.C_F Kd.heap_bool HR1_2.out) (bl_ HB))); rintro e w81 ⟨v216, rfl, ho0, hb⟩; have n0_ := Aside0.mk (Kd.R_below (by (with_reducible repeat (first | apply Kd.R_alloc | apply Kd.R_drewN | apply Kd.R_drew)); exact HO204.out) hb); have n1_ := Aside0.mk (Kd.V_below (by (with_reducible repeat (first | apply Kd.V_alloc | apply Kd.V_drewN | apply Kd.V_drew)); exact HO211.out) hb); have n2_ := Aside0.mk (Kd.V_lower (Kd.V_mono (ok' := fun k_ => some k_ ≠ (.slice Ao25 t202.length co25 : Value).ownBlock ∧ k_ ≠ gb197 ∧ k_ ≠ gb198 ∧ k_ ≠ gb206) ho0 (fun k_ hk_ => ⟨Or.elim hk_ (fun hs_ => fun e_ => Nat.not_le.2 hs_ (Kd.R_base HO204.out k_ e_.symm)) (fun hn_ => (Kd.fresh' (Kd.R_lt (by (with_reducible repeat (first | apply Kd.R_alloc | apply Kd.R_drewN | apply Kd.R_drew)); exact HO204.out)) k_ hn_)), Or.elim hk_ (fun hs_ => fun e_ => Nat.not_le.2 hs_ (by rw [e_]; exact GW197.out)) (fun hn_ => (Kd.freshB (g := gb197) (o := .cells #[.int .u64 a0_0, .int .i64 a0_1, .slice A0_2 l0_2.length c0_2] 25 (0, 0)) (bk_ BK197) k_ hn_)), Or.elim hk_ (fun hs_ => fun e_ => Nat.not_le.2 hs_ (by rw [e_]; exact GW198.out)) (fun hn_ => (Kd.freshB (g := gb198) (o := .cells #[.int .u64 a1_0, .int .i64 a1_1, .slice A1_2 l1_2.length c1_2] 25 (0, 0)) (bk_ BK198) k_ hn_)), Or.elim hk_ (fun hs_ => fun e_ => Nat.not_le.2 hs_ (by rw [e_]; exact GW206.out)) (fun hn_ => (Kd.freshB (g := gb206) (o := .cells #[.int .u64 t200, .int .i64 t201, .slice Ao25 t202.length co25] 25 (0, 0)) (bk_ BK206) k_ hn_))⟩)) (below_size (bl_ HB))); have n3_ := Aside0.mk (blk_below (bk_ BK197) hb); have n4_ := Aside0.mk (blk_below (bk_ BK198) hb); have n5_ := Aside0.mk (blk_below (bk_ BK206) hb); have n6_ := Aside0.mk (below_step (bl_ HB) hb); clear HO204; clear HO211; clear BK197; clear BK198; clear BK206; clear HB; have HO204 := n0_; have HO211 := n1_; have HO217 := n2_; have BK197 := n3_; have BK198 := n4_; have BK206 := n5_; have HB := n6_; clear n0_ n1_ n2_ n3_ n4_ n5_ n6_; (try clear hb); (try clear hb2); (try clear hk); (try clear hi); (try clear ho0); obtain ⟨Ao82, co82, eo82⟩ := Kd.V_slice HO217.out; subst eo82) | (go_at_call 18; (with_reducible refine (rillmeterref10_Right.calls t213 t214 _ _ t215 false _ ?side1 ?side2 A30.out).mono ?_); (case side1 => repeat (first | exact (Kd.V_reads' HO217.out).2.2 | (with_reducible refine Kd.C_alloc ?_ _) | (with_reducible refine Kd.C_drewN ?_ _) | (with_reducible refine Kd.C_drew ?_))); (case side2 => exact (Kd.V_reads' HO217.out).2.1); rintro e w83 ⟨rfl, hb⟩; have n0_ := Aside0.mk (Kd.R_below (by (with_reducible repeat (first | apply Kd.R_alloc | apply Kd.R_drewN | apply Kd.R_drew)); exact HO204.out) hb); have n1_ := Aside0.mk (Kd.V_below (by (with_reducible repeat (first | apply Kd.V_alloc | apply Kd.V_drewN | apply Kd.V_drew)); exact HO211.out) hb); have n2_ := Aside0.mk (Kd.V_below (by (with_reducible repeat (first | apply Kd.V_alloc | apply Kd.V_drewN | apply Kd.V_drew)); exact HO217.out) hb); have n3_ := Aside0.mk (blk_below (bk_ BK197) hb); have n4_ := Aside0.mk (blk_below (bk_ BK198) hb); have n5_ := Aside0.mk (blk_below (bk_ BK206) hb); have n6_ := Aside0.mk (below_step (bl_ HB) hb); clear HO204; clear HO211; clear HO217; clear BK197; clear BK198; clear BK206; clear HB; have HO204 := n0_; have HO211 := n1_; have HO217 := n2_; have BK197 := n3_; have BK198 := n4_; have BK206 := n5_; have HB := n6_; clear n0_ n1_ n2_ n3_ n4_ n5_ n6_; (try clear hb); (try clear hb2); (try clear hk); (try clear hi)))
              repeat (go_quiet (first | (go_at_call 11; (with_reducible refine (rillmeterlaw10_ref.calls a0_0 a0_1 (fun k_ => k_ < w.heap.size) _ _ l0_2 t207 t208 t209 _ ?side1 A26.out).mono ?_); (case side1 => exact Kd.V_mk HC0_2.out (Kd.F_below (Kd.C_F Kd.heap_bool HR0_2.out) (bl_ HB))); rintro e w76 ⟨v210, rfl, ho0, hb⟩; have n0_ := Aside0.mk (Kd.R_below (by (with_reducible repeat (first | apply Kd.R_alloc | apply Kd.R_drewN | apply Kd.R_drew)); exact (Kd.R_mono (Kd.R_far (p := ⟨gb206, 2, none⟩) (Kd.R_far (p := ⟨gb206, 1, none⟩) (Kd.R_far (p := ⟨gb206, 0, none⟩) (Kd.R_types HO204.out BK206.out (by decide)) (fun _ hk => hk.2) (.int .u64 t200)) (fun _ hk => hk.2) (.int .i64 t201)) (fun _ hk => hk.2) (.slice Ao25 t202.length co25)) (fun _ h_ => h_.1))) hb); have n1_ := Aside0.mk (Kd.V_lower (Kd.V_mono (ok' := fun k_ => some k_ ≠ (.slice Ao25 t202.length co25 : Value).ownBlock ∧ k_ ≠ gb197 ∧ k_ ≠ gb198 ∧ k_ ≠ gb206) ho0 (fun k_ hk_ => ⟨Or.elim hk_ (fun hs_ => fun e_ => Nat.not_le.2 hs_ (Kd.R_base HO204.out k_ e_.symm)) (fun hn_ => (Kd.fresh' (Kd.R_lt (by (with_reducible repeat (first | apply Kd.R_alloc | apply Kd.R_drewN | apply Kd.R_drew)); exact (Kd.R_mono (Kd.R_far (p := ⟨gb206, 2, none⟩) (Kd.R_far (p := ⟨gb206, 1, none⟩) (Kd.R_far (p := ⟨gb206, 0, none⟩) (Kd.R_types HO204.out BK206.out (by decide)) (fun _ hk => hk.2) (.int .u64 t200)) (fun _ hk => hk.2) (.int .i64 t201)) (fun _ hk => hk.2) (.slice Ao25 t202.length co25)) (fun _ h_ => h_.1)))) k_ hn_)), Or.elim hk_ (fun hs_ => fun e_ => Nat.not_le.2 hs_ (by rw [e_]; exact GW197.out)) (fun hn_ => (Kd.freshB (g := gb197) (o := .cells #[.int .u64 a0_0, .int .i64 a0_1, .slice A0_2 l0_2.length c0_2] 25 (0, 0)) (by (with_reducible repeat (first | refine blk_drewN ?_ _ | refine blk_drew ?_ | refine blk_alloc ?_ _)); refine blk_far ?_ NB197_206.out _; (with_reducible repeat (first | refine blk_drewN ?_ _ | refine blk_drew ?_ | refine blk_alloc ?_ _)); refine blk_far ?_ NB197_206.out _; (with_reducible repeat (first | refine blk_drewN ?_ _ | refine blk_drew ?_ | refine blk_alloc ?_ _)); refine blk_far ?_ NB197_206.out _; (with_reducible repeat (first | refine blk_drewN ?_ _ | refine blk_drew ?_ | refine blk_alloc ?_ _)); exact BK197.out) k_ hn_)), Or.elim hk_ (fun hs_ => fun e_ => Nat.not_le.2 hs_ (by rw [e_]; exact GW198.out)) (fun hn_ => (Kd.freshB (g := gb198) (o := .cells #[.int .u64 a1_0, .int .i64 a1_1, .slice A1_2 l1_2.length c1_2] 25 (0, 0)) (by (with_reducible repeat (first | refine blk_drewN ?_ _ | refine blk_drew ?_ | refine blk_alloc ?_ _)); refine blk_far ?_ NB198_206.out _; (with_reducible repeat (first | refine blk_drewN ?_ _ | refine blk_drew ?_ | refine blk_alloc ?_ _)); refine blk_far ?_ NB198_206.out _; (with_reducible repeat (first | refine blk_drewN ?_ _ | refine blk_drew ?_ | refine blk_alloc ?_ _)); refine blk_far ?_ NB198_206.out _; (with_reducible repeat (first | refine blk_drewN ?_ _ | refine blk_drew ?_ | refine blk_alloc ?_ _)); exact BK198.out) k_ hn_)), Or.elim hk_ (fun hs_ => fun e_ => Nat.not_le.2 hs_ (by rw [e_]; exact GW206.out)) (fun hn_ => (Kd.freshB (g := gb206) (o := .cells #[.int .u64 t200, .int .i64 t201, .slice Ao25 t202.length co25] 25 (0, 0)) (by (with_reducible repeat (first | refine blk_drewN ?_ _ | refine blk_drew ?_ | refine blk_alloc ?_ _)); refine blk_put (cs := #[.int .u64 t200, .int .i64 t201, .slice none 0 0]) ?_ 2 _ rfl; (with_reducible repeat (first | refine blk_drewN ?_ _ | refine blk_drew ?_ | refine blk_alloc ?_ _)); refine blk_put (cs := #[.int .u64 t200, .int .i64 0, .slice none 0 0]) ?_ 1 _ rfl; (with_reducible repeat (first | refine blk_drewN ?_ _ | refine blk_drew ?_ | refine blk_alloc ?_ _)); refine blk_put (cs := #[.int .u64 0, .int .i64 0, .slice none 0 0]) ?_ 0 _ rfl; (with_reducible repeat (first | refine blk_drewN ?_ _ | refine blk_drew ?_ | refine blk_alloc ?_ _)); exact BK206.out) k_ hn_))⟩)) (below_size (bl_ HB))); have n2_ := Aside0.mk (blk_below (g := gb197) (o := .cells #[.int .u64 a0_0, .int .i64 a0_1, .slice A0_2 l0_2.length c0_2] 25 (0, 0)) (by (with_reducible repeat (first | refine blk_drewN ?_ _ | refine blk_drew ?_ | refine blk_alloc ?_ _)); refine blk_far ?_ NB197_206.out _; (with_reducible repeat (first | refine blk_drewN ?_ _ | refine blk_drew ?_ | refine blk_alloc ?_ _)); refine blk_far ?_ NB197_206.out _; (with_reducible repeat (first | refine blk_drewN ?_ _ | refine blk_drew ?_ | refine blk_alloc ?_ _)); refine blk_far ?_ NB197_206.out _; (with_reducible repeat (first | refine blk_drewN ?_ _ | refine blk_drew ?_ | refine blk_alloc ?_ _)); exact BK197.out) hb); have n3_ := Aside0.mk (blk_below (g := gb198) (o := .cells #[.int .u64 a1_0, .int .i64 a1_1, .slice A1_2 l1_2.length c1_2] 25 (0, 0)) (by (with_reducible repeat (first | refine blk_drewN ?_ _ | refine blk_drew ?_ | refine blk_alloc ?_ _)); refine blk_far ?_ NB198_206.out _; (with_reducible repeat (first | refine blk_drewN ?_ _ | refine blk_drew ?_ | refine blk_alloc ?_ _)); refine blk_far ?_ NB198_206.out _; (with_reducible repeat (first | refine blk_drewN ?_ _ | refine blk_drew ?_ | refine blk_alloc ?_ _)); refine blk_far ?_ NB198_206.out _; (with_reducible repeat (first | refine blk_drewN ?_ _ | refine blk_drew ?_ | refine blk_alloc ?_ _)); exact BK198.out) hb); have n4_ := Aside0.mk (blk_below (g := gb206) (o := .cells #[.int .u64 t200, .int .i64 t201, .slice Ao25 t202.length co25] 25 (0, 0)) (by (with_reducible repeat (first | refine blk_drewN ?_ _ | refine blk_drew ?_ | refine blk_alloc ?_ _)); refine blk_put (cs := #[.int .u64 t200, .int .i64 t201, .slice none 0 0]) ?_ 2 _ rfl; (with_reducible repeat (first | refine blk_drewN ?_ _ | refine blk_drew ?_ | refine blk_alloc ?_ _)); refine blk_put (cs := #[.int .u64 t200, .int .i64 0, .slice none 0 0]) ?_ 1 _ rfl; (with_reducible repeat (first | refine blk_drewN ?_ _ | refine blk_drew ?_ | refine blk_alloc ?_ _)); refine blk_put (cs := #[.int .u64 0, .int .i64 0, .slice none 0 0]) ?_ 0 _ rfl; (with_reducible repeat (first | refine blk_drewN ?_ _ | refine blk_drew ?_ | refine blk_alloc ?_ _)); exact BK206.out) hb); have n5_ := Aside0.mk (below_step (bl_ HB) hb); clear HO204; clear BK197; clear BK198; clear BK206; clear HB; have HO204 := n0_; have HO211 := n1_; have BK197 := n2_; have BK198 := n3_; have BK206 := n4_; have HB := n5_; clear n0_ n1_ n2_ n3_ n4_ n5_; (try clear hb); (try clear hb2); (try clear hk); (try clear hi); (try clear ho0); obtain ⟨Ao77, co77, eo77⟩ := Kd.V_slice HO211.out; subst eo77) | (go_at_call 18; (with_reducible refine (rillmeterref10_Right.calls t207 t208 _ _ t209 true _ ?side1 ?side2 A27.out).mono ?_); (case side1 => repeat (first | exact (Kd.V_reads' HO211.out).2.2 | (with_reducible refine Kd.C_alloc ?_ _) | (with_reducible refine Kd.C_drewN ?_ _) | (with_reducible refine Kd.C_drew ?_))); (case side2 => exact (Kd.V_reads' HO211.out).2.1); rintro e w78 ⟨rfl, hb⟩; have n0_ := Aside0.mk (Kd.R_below (by (with_reducible repeat (first | apply Kd.R_alloc | apply Kd.R_drewN | apply Kd.R_drew)); exact HO204.out) hb); have n1_ := Aside0.mk (Kd.V_below (by (with_reducible repeat (first | apply Kd.V_alloc | apply Kd.V_drewN | apply Kd.V_drew)); exact HO211.out) hb); have n2_ := Aside0.mk (blk_below (bk_ BK197) hb); have n3_ := Aside0.mk (blk_below (bk_ BK198) hb); have n4_ := Aside0.mk (blk_below (bk_ BK206) hb); have n5_ := Aside0.mk (below_step (bl_ HB) hb); clear HO204; clear HO211; clear BK197; clear BK198; clear BK206; clear HB; have HO204 := n0_; have HO211 := n1_; have BK197 := n2_; have BK198 := n3_; have BK206 := n4_; have HB := n5_; clear n0_ n1_ n2_ n3_ n4_ n5_; (try clear hb); (try clear hb2); (try clear hk); (try clear hi); have hnb79 := NB198_206.out; have hnc79 := NB206_198.out; have hcz80_0 : w78.cell? ⟨gb198, 0, none⟩ = some (.int .u64 a1_0) := (blk_cell BK198.out 0).trans rfl; have hcz80_1 : w78.cell? ⟨gb198, 1, none⟩ = some (.int .i64 a1_1) := (blk_cell BK198.out 1).trans rfl; have hcz80_2 : w78.cell? ⟨gb198, 2, none⟩ = some (.slice A1_2 l1_2.length c1_2) := (blk_cell BK198.out 2).trans rfl; have hfz80_0 := blk_frozen BK198.out 0; have hfz80_1 := blk_frozen BK198.out 1; have hfz80_2 := blk_frozen BK198.out 2) | (go_at_call 11; (with_reducible refine (rillmeterlaw10_ref.calls a1_0 a1_1 (fun k_ => k_ < w.heap.size) _ _ l1_2 t213 t214 t215 _ ?side1 A29.out).mono ?_); (case side1 => exact Kd.V_mk HC1_2.out (Kd.F_below (Kd.C_F Kd.heap_bool HR1_2.out) (bl_ HB))); rintro e w81 ⟨v216, rfl, ho0, hb⟩; have n0_ := Aside0.mk (Kd.R_below (by (with_reducible repeat (first | apply Kd.R_alloc | apply Kd.R_drewN | apply Kd.R_drew)); exact HO204.out) hb); have n1_ := Aside0.mk (Kd.V_below (by (with_reducible repeat (first | apply Kd.V_alloc | apply Kd.V_drewN | apply Kd.V_drew)); exact HO211.out) hb); have n2_ := Aside0.mk (Kd.V_lower (Kd.V_mono (ok' := fun k_ => some k_ ≠ (.slice Ao25 t202.length co25 : Value).ownBlock ∧ k_ ≠ gb197 ∧ k_ ≠ gb198 ∧ k_ ≠ gb206) ho0 (fun k_ hk_ => ⟨Or.elim hk_ (fun hs_ => fun e_ => Nat.not_le.2 hs_ (Kd.R_base HO204.out k_ e_.symm)) (fun hn_ => (Kd.fresh' (Kd.R_lt (by (with_reducible repeat (first | apply Kd.R_alloc | apply Kd.R_drewN | apply Kd.R_drew)); exact HO204.out)) k_ hn_)), Or.elim hk_ (fun hs_ => fun e_ => Nat.not_le.2 hs_ (by rw [e_]; exact GW197.out)) (fun hn_ => (Kd.freshB (g := gb197) (o := .cells #[.int .u64 a0_0, .int .i64 a0_1, .slice A0_2 l0_2.length c0_2] 25 (0, 0)) (bk_ BK197) k_ hn_)), Or.elim hk_ (fun hs_ => fun e_ => Nat.not_le.2 hs_ (by rw [e_]; exact GW198.out)) (fun hn_ => (Kd.freshB (g := gb198) (o := .cells #[.int .u64 a1_0, .int .i64 a1_1, .slice A1_2 l1_2.length c1_2] 25 (0, 0)) (bk_ BK198) k_ hn_)), Or.elim hk_ (fun hs_ => fun e_ => Nat.not_le.2 hs_ (by rw [e_]; exact GW206.out)) (fun hn_ => (Kd.freshB (g := gb206) (o := .cells #[.int .u64 t200, .int .i64 t201, .slice Ao25 t202.length co25] 25 (0, 0)) (bk_ BK206) k_ hn_))⟩)) (below_size (bl_ HB))); have n3_ := Aside0.mk (blk_below (bk_ BK197) hb); have n4_ := Aside0.mk (blk_below (bk_ BK198) hb); have n5_ := Aside0.mk (blk_below (bk_ BK206) hb); have n6_ := Aside0.mk (below_step (bl_ HB) hb); clear HO204; clear HO211; clear BK197; clear BK198; clear BK206; clear HB; have HO204 := n0_; have HO211 := n1_; have HO217 := n2_; have BK197 := n3_; have BK198 := n4_; have BK206 := n5_; have HB := n6_; clear n0_ n1_ n2_ n3_ n4_ n5_ n6_; (try clear hb); (try clear hb2); (try clear hk); (try clear hi); (try clear ho0); obtain ⟨Ao82, co82, eo82⟩ := Kd.V_slice HO217.out; subst eo82) | (go_at_call 18; (with_reducible refine (rillmeterref10_Right.calls t213 t214 _ _ t215 false _ ?side1 ?side2 A30.out).mono ?_); (case side1 => repeat (first | exact (Kd.V_reads' HO217.out).2.2 | (with_reducible refine Kd.C_alloc ?_ _) | (with_reducible refine Kd.C_drewN ?_ _) | (with_reducible refine Kd.C_drew ?_))); (case side2 => exact (Kd.V_reads' HO217.out).2.1); rintro e w83 ⟨rfl, hb⟩; have n0_ := Aside0.mk (Kd.R_below (by (with_reducible repeat (first | apply Kd.R_alloc | apply Kd.R_drewN | apply Kd.R_drew)); exact HO204.out) hb); have n1_ := Aside0.mk (Kd.V_below (by (with_reducible repeat (first | apply Kd.V_alloc | apply Kd.V_drewN | apply Kd.V_drew)); exact HO211.out) hb); have n2_ := Aside0.mk (Kd.V_below (by (with_reducible repeat (first | apply Kd.V_alloc | apply Kd.V_drewN | apply Kd.V_drew)); exact HO217.out) hb); have n3_ := Aside0.mk (blk_below (bk_ BK197) hb); have n4_ := Aside0.mk (blk_below (bk_ BK198) hb); have n5_ := Aside0.mk (blk_below (bk_ BK206) hb); have n6_ := Aside0.mk (below_step (bl_ HB) hb); clear HO204; clear HO211; clear HO217; clear BK197; clear BK198; clear BK206; clear HB; have HO204 := n0_; have HO211 := n1_; have HO217 := n2_; have BK197 := n3_; have BK198 := n4_; have BK206 := n5_; have HB := n6_; clear n0_ n1_ n2_ n3_ n4_ n5_ n6_; (try clear hb); (try clear hb2); (try clear hk); (try clear hi))); try go_wp2_with (first | (go_at_call 11; (with_reducible refine (rillmeterlaw10_ref.calls a0_0 a0_1 (fun k_ => k_ < w.heap.size) _ _ l0_2 t207 t208 t209 _ ?side1 A26.out).mono ?_); (case side1 => exact Kd.V_mk HC0_2.out (Kd.F_below (Kd.C_F Kd.heap_bool HR0_2.out) (bl_ HB))); rintro e w76 ⟨v210, rfl, ho0, hb⟩; have n0_ := Aside0.mk (Kd.R_below (by (with_reducible repeat (first | apply Kd.R_alloc | apply Kd.R_drewN | apply Kd.R_drew)); exact (Kd.R_mono (Kd.R_far (p := ⟨gb206, 2, none⟩) (Kd.R_far (p := ⟨gb206, 1, none⟩) (Kd.R_far (p := ⟨gb206, 0, none⟩) (Kd.R_types HO204.out BK206.out (by decide)) (fun _ hk => hk.2) (.int .u64 t200)) (fun _ hk => hk.2) (.int .i64 t201)) (fun _ hk => hk.2) (.slice Ao25 t202.length co25)) (fun _ h_ => h_.1))) hb); have n1_ := Aside0.mk (Kd.V_lower (Kd.V_mono (ok' := fun k_ => some k_ ≠ (.slice Ao25 t202.length co25 : Value).ownBlock ∧ k_ ≠ gb197 ∧ k_ ≠ gb198 ∧ k_ ≠ gb206) ho0 (fun k_ hk_ => ⟨Or.elim hk_ (fun hs_ => fun e_ => Nat.not_le.2 hs_ (Kd.R_base HO204.out k_ e_.symm)) (fun hn_ => (Kd.fresh' (Kd.R_lt (by (with_reducible repeat (first | apply Kd.R_alloc | apply Kd.R_drewN | apply Kd.R_drew)); exact (Kd.R_mono (Kd.R_far (p := ⟨gb206, 2, none⟩) (Kd.R_far (p := ⟨gb206, 1, none⟩) (Kd.R_far (p := ⟨gb206, 0, none⟩) (Kd.R_types HO204.out BK206.out (by decide)) (fun _ hk => hk.2) (.int .u64 t200)) (fun _ hk => hk.2) (.int .i64 t201)) (fun _ hk => hk.2) (.slice Ao25 t202.length co25)) (fun _ h_ => h_.1)))) k_ hn_)), Or.elim hk_ (fun hs_ => fun e_ => Nat.not_le.2 hs_ (by rw [e_]; exact GW197.out)) (fun hn_ => (Kd.freshB (g := gb197) (o := .cells #[.int .u64 a0_0, .int .i64 a0_1, .slice A0_2 l0_2.length c0_2] 25 (0, 0)) (by (with_reducible repeat (first | refine blk_drewN ?_ _ | refine blk_drew ?_ | refine blk_alloc ?_ _)); refine blk_far ?_ NB197_206.out _; (with_reducible repeat (first | refine blk_drewN ?_ _ | refine blk_drew ?_ | refine blk_alloc ?_ _)); refine blk_far ?_ NB197_206.out _; (with_reducible repeat (first | refine blk_drewN ?_ _ | refine blk_drew ?_ | refine blk_alloc ?_ _)); refine blk_far ?_ NB197_206.out _; (with_reducible repeat (first | refine blk_drewN ?_ _ | refine blk_drew ?_ | refine blk_alloc ?_ _)); exact BK197.out) k_ hn_)), Or.elim hk_ (fun hs_ => fun e_ => Nat.not_le.2 hs_ (by rw [e_]; exact GW198.out)) (fun hn_ => (Kd.freshB (g := gb198) (o := .cells #[.int .u64 a1_0, .int .i64 a1_1, .slice A1_2 l1_2.length c1_2] 25 (0, 0)) (by (with_reducible repeat (first | refine blk_drewN ?_ _ | refine blk_drew ?_ | refine blk_alloc ?_ _)); refine blk_far ?_ NB198_206.out _; (with_reducible repeat (first | refine blk_drewN ?_ _ | refine blk_drew ?_ | refine blk_alloc ?_ _)); refine blk_far ?_ NB198_206.out _; (with_reducible repeat (first | refine blk_drewN ?_ _ | refine blk_drew ?_ | refine blk_alloc ?_ _)); refine blk_far ?_ NB198_206.out _; (with_reducible repeat (first | refine blk_drewN ?_ _ | refine blk_drew ?_ | refine blk_alloc ?_ _)); exact BK198.out) k_ hn_)), Or.elim hk_ (fun hs_ => fun e_ => Nat.not_le.2 hs_ (by rw [e_]; exact GW206.out)) (fun hn_ => (Kd.freshB (g := gb206) (o := .cells #[.int .u64 t200, .int .i64 t201, .slice Ao25 t202.length co25] 25 (0, 0)) (by (with_reducible repeat (first | refine blk_drewN ?_ _ | refine blk_drew ?_ | refine blk_alloc ?_ _)); refine blk_put (cs := #[.int .u64 t200, .int .i64 t201, .slice none 0 0]) ?_ 2 _ rfl; (with_reducible repeat (first | refine blk_drewN ?_ _ | refine blk_drew ?_ | refine blk_alloc ?_ _)); refine blk_put (cs := #[.int .u64 t200, .int .i64 0, .slice none 0 0]) ?_ 1 _ rfl; (with_reducible repeat (first | refine blk_drewN ?_ _ | refine blk_drew ?_ | refine blk_alloc ?_ _)); refine blk_put (cs := #[.int .u64 0, .int .i64 0, .slice none 0 0]) ?_ 0 _ rfl; (with_reducible repeat (first | refine blk_drewN ?_ _ | refine blk_drew ?_ | refine blk_alloc ?_ _)); exact BK206.out) k_ hn_))⟩)) (below_size (bl_ HB))); have n2_ := Aside0.mk (blk_below (g := gb197) (o := .cells #[.int .u64 a0_0, .int .i64 a0_1, .slice A0_2 l0_2.length c0_2] 25 (0, 0)) (by (with_reducible repeat (first | refine blk_drewN ?_ _ | refine blk_drew ?_ | refine blk_alloc ?_ _)); refine blk_far ?_ NB197_206.out _; (with_reducible repeat (first | refine blk_drewN ?_ _ | refine blk_drew ?_ | refine blk_alloc ?_ _)); refine blk_far ?_ NB197_206.out _; (with_reducible repeat (first | refine blk_drewN ?_ _ | refine blk_drew ?_ | refine blk_alloc ?_ _)); refine blk_far ?_ NB197_206.out _; (with_reducible repeat (first | refine blk_drewN ?_ _ | refine blk_drew ?_ | refine blk_alloc ?_ _)); exact BK197.out) hb); have n3_ := Aside0.mk (blk_below (g := gb198) (o := .cells #[.int .u64 a1_0, .int .i64 a1_1, .slice A1_2 l1_2.length c1_2] 25 (0, 0)) (by (with_reducible repeat (first | refine blk_drewN ?_ _ | refine blk_drew ?_ | refine blk_alloc ?_ _)); refine blk_far ?_ NB198_206.out _; (with_reducible repeat (first | refine blk_drewN ?_ _ | refine blk_drew ?_ | refine blk_alloc ?_ _)); refine blk_far ?_ NB198_206.out _; (with_reducible repeat (first | refine blk_drewN ?_ _ | refine blk_drew ?_ | refine blk_alloc ?_ _)); refine blk_far ?_ NB198_206.out _; (with_reducible repeat (first | refine blk_drewN ?_ _ | refine blk_drew ?_ | refine blk_alloc ?_ _)); exact BK198.out) hb); have n4_ := Aside0.mk (blk_below (g := gb206) (o := .cells #[.int .u64 t200, .int .i64 t201, .slice Ao25 t202.length co25] 25 (0, 0)) (by (with_reducible repeat (first | refine blk_drewN ?_ _ | refine blk_drew ?_ | refine blk_alloc ?_ _)); refine blk_put (cs := #[.int .u64 t200, .int .i64 t201, .slice none 0 0]) ?_ 2 _ rfl; (with_reducible repeat (first | refine blk_drewN ?_ _ | refine blk_drew ?_ | refine blk_alloc ?_ _)); refine blk_put (cs := #[.int .u64 t200, .int .i64 0, .slice none 0 0]) ?_ 1 _ rfl; (with_reducible repeat (first | refine blk_drewN ?_ _ | refine blk_drew ?_ | refine blk_alloc ?_ _)); refine blk_put (cs := #[.int .u64 0, .int .i64 0, .slice none 0 0]) ?_ 0 _ rfl; (with_reducible repeat (first | refine blk_drewN ?_ _ | refine blk_drew ?_ | refine blk_alloc ?_ _)); exact BK206.out) hb); have n5_ := Aside0.mk (below_step (bl_ HB) hb); clear HO204; clear BK197; clear BK198; clear BK206; clear HB; have HO204 := n0_; have HO211 := n1_; have BK197 := n2_; have BK198 := n3_; have BK206 := n4_; have HB := n5_; clear n0_ n1_ n2_ n3_ n4_ n5_; (try clear hb); (try clear hb2); (try clear hk); (try clear hi); (try clear ho0); obtain ⟨Ao77, co77, eo77⟩ := Kd.V_slice HO211.out; subst eo77) | (go_at_call 18; (with_reducible refine (rillmeterref10_Right.calls t207 t208 _ _ t209 true _ ?side1 ?side2 A27.out).mono ?_); (case side1 => repeat (first | exact (Kd.V_reads' HO211.out).2.2 | (with_reducible refine Kd.C_alloc ?_ _) | (with_reducible refine Kd.C_drewN ?_ _) | (with_reducible refine Kd.C_drew ?_))); (case side2 => exact (Kd.V_reads' HO211.out).2.1); rintro e w78 ⟨rfl, hb⟩; have n0_ := Aside0.mk (Kd.R_below (by (with_reducible repeat (first | apply Kd.R_alloc | apply Kd.R_drewN | apply Kd.R_drew)); exact HO204.out) hb); have n1_ := Aside0.mk (Kd.V_below (by (with_reducible repeat (first | apply Kd.V_alloc | apply Kd.V_drewN | apply Kd.V_drew)); exact HO211.out) hb); have n2_ := Aside0.mk (blk_below (bk_ BK197) hb); have n3_ := Aside0.mk (blk_below (bk_ BK198) hb); have n4_ := Aside0.mk (blk_below (bk_ BK206) hb); have n5_ := Aside0.mk (below_step (bl_ HB) hb); clear HO204; clear HO211; clear BK197; clear BK198; clear BK206; clear HB; have HO204 := n0_; have HO211 := n1_; have BK197 := n2_; have BK198 := n3_; have BK206 := n4_; have HB := n5_; clear n0_ n1_ n2_ n3_ n4_ n5_; (try clear hb); (try clear hb2); (try clear hk); (try clear hi); have hnb79 := NB198_206.out; have hnc79 := NB206_198.out; have hcz80_0 : w78.cell? ⟨gb198, 0, none⟩ = some (.int .u64 a1_0) := (blk_cell BK198.out 0).trans rfl; have hcz80_1 : w78.cell? ⟨gb198, 1, none⟩ = some (.int .i64 a1_1) := (blk_cell BK198.out 1).trans rfl; have hcz80_2 : w78.cell? ⟨gb198, 2, none⟩ = some (.slice A1_2 l1_2.length c1_2) := (blk_cell BK198.out 2).trans rfl; have hfz80_0 := blk_frozen BK198.out 0; have hfz80_1 := blk_frozen BK198.out 1; have hfz80_2 := blk_frozen BK198.out 2) | (go_at_call 11; (with_reducible refine (rillmeterlaw10_ref.calls a1_0 a1_1 (fun k_ => k_ < w.heap.size) _ _ l1_2 t213 t214 t215 _ ?side1 A29.out).mono ?_); (case side1 => exact Kd.V_mk HC1_2.out (Kd.F_below (Kd.C_F Kd.heap_bool HR1_2.out) (bl_ HB))); rintro e w81 ⟨v216, rfl, ho0, hb⟩; have n0_ := Aside0.mk (Kd.R_below (by (with_reducible repeat (first | apply Kd.R_alloc | apply Kd.R_drewN | apply Kd.R_drew)); exact HO204.out) hb); have n1_ := Aside0.mk (Kd.V_below (by (with_reducible repeat (first | apply Kd.V_alloc | apply Kd.V_drewN | apply Kd.V_drew)); exact HO211.out) hb); have n2_ := Aside0.mk (Kd.V_lower (Kd.V_mono (ok' := fun k_ => some k_ ≠ (.slice Ao25 t202.length co25 : Value).ownBlock ∧ k_ ≠ gb197 ∧ k_ ≠ gb198 ∧ k_ ≠ gb206) ho0 (fun k_ hk_ => ⟨Or.elim hk_ (fun hs_ => fun e_ => Nat.not_le.2 hs_ (Kd.R_base HO204.out k_ e_.symm)) (fun hn_ => (Kd.fresh' (Kd.R_lt (by (with_reducible repeat (first | apply Kd.R_alloc | apply Kd.R_drewN | apply Kd.R_drew)); exact HO204.out)) k_ hn_)), Or.elim hk_ (fun hs_ => fun e_ => Nat.not_le.2 hs_ (by rw [e_]; exact GW197.out)) (fun hn_ => (Kd.freshB (g := gb197) (o := .cells #[.int .u64 a0_0, .int .i64 a0_1, .slice A0_2 l0_2.length c0_2] 25 (0, 0)) (bk_ BK197) k_ hn_)), Or.elim hk_ (fun hs_ => fun e_ => Nat.not_le.2 hs_ (by rw [e_]; exact GW198.out)) (fun hn_ => (Kd.freshB (g := gb198) (o := .cells #[.int .u64 a1_0, .int .i64 a1_1, .slice A1_2 l1_2.length c1_2] 25 (0, 0)) (bk_ BK198) k_ hn_)), Or.elim hk_ (fun hs_ => fun e_ => Nat.not_le.2 hs_ (by rw [e_]; exact GW206.out)) (fun hn_ => (Kd.freshB (g := gb206) (o := .cells #[.int .u64 t200, .int .i64 t201, .slice Ao25 t202.length co25] 25 (0, 0)) (bk_ BK206) k_ hn_))⟩)) (below_size (bl_ HB))); have n3_ := Aside0.mk (blk_below (bk_ BK197) hb); have n4_ := Aside0.mk (blk_below (bk_ BK198) hb); have n5_ := Aside0.mk (blk_below (bk_ BK206) hb); have n6_ := Aside0.mk (below_step (bl_ HB) hb); clear HO204; clear HO211; clear BK197; clear BK198; clear BK206; clear HB; have HO204 := n0_; have HO211 := n1_; have HO217 := n2_; have BK197 := n3_; have BK198 := n4_; have BK206 := n5_; have HB := n6_; clear n0_ n1_ n2_ n3_ n4_ n5_ n6_; (try clear hb); (try clear hb2); (try clear hk); (try clear hi); (try clear ho0); obtain ⟨Ao82, co82, eo82⟩ := Kd.V_slice HO217.out; subst eo82) | (go_at_call 18; (with_reducible refine (rillmeterref10_Right.calls t213 t214 _ _ t215 false _ ?side1 ?side2 A30.out).mono ?_); (case side1 => repeat (first | exact (Kd.V_reads' HO217.out).2.2 | (with_reducible refine Kd.C_alloc ?_ _) | (with_reducible refine Kd.C_drewN ?_ _) | (with_reducible refine Kd.C_drew ?_))); (case side2 => exact (Kd.V_reads' HO217.out).2.1); rintro e w83 ⟨rfl, hb⟩; have n0_ := Aside0.mk (Kd.R_below (by (with_reducible repeat (first | apply Kd.R_alloc | apply Kd.R_drewN | apply Kd.R_drew)); exact HO204.out) hb); have n1_ := Aside0.mk (Kd.V_below (by (with_reducible repeat (first | apply Kd.V_alloc | apply Kd.V_drewN | apply Kd.V_drew)); exact HO211.out) hb); have n2_ := Aside0.mk (Kd.V_below (by (with_reducible repeat (first | apply Kd.V_alloc | apply Kd.V_drewN | apply Kd.V_drew)); exact HO217.out) hb); have n3_ := Aside0.mk (blk_below (bk_ BK197) hb); have n4_ := Aside0.mk (blk_below (bk_ BK198) hb); have n5_ := Aside0.mk (blk_below (bk_ BK206) hb); have n6_ := Aside0.mk (below_step (bl_ HB) hb); clear HO204; clear HO211; clear HO217; clear BK197; clear BK198; clear BK206; clear HB; have HO204 := n0_; have HO211 := n1_; have HO217 := n2_; have BK197 := n3_; have BK198 := n4_; have BK206 := n5_; have HB := n6_; clear n0_ n1_ n2_ n3_ n4_ n5_ n6_; (try clear hb); (try clear hb2); (try clear hk); (try clear hi))))
              go_meet
              case rel => exact ⟨_, (true), (by first | rfl | (simp; done) | (simp [*]; done)), H', ⟨by have := HJ2.out; first | omega | exact Nat.le_refl _⟩, ⟨by (with_reducible repeat (first | apply Kd.R_alloc | apply Kd.R_drewN | apply Kd.R_drew)); exact HO204.out⟩, ⟨bk_ BK197⟩, ⟨bk_ BK198⟩, ⟨bk_ BK206⟩, ⟨bl_ HB⟩⟩
          · replace c28 := Bool.eq_false_iff.mpr c28
            subst c28
            have H1 : (rillmeterlaw10_BloomMerges.j1 kj2 t205 true a0_0 a0_1 l0_2 a1_0 a1_1 l1_2 t200 t201 t202) = some r := by rw [if_neg (show ¬ (false = true) by decide)] at H; exact H
            clear H
            have H := H1
            clear H1
            have H' := Aside0.mk H
            clear H
            have hnb84 := NB197_198.out
            have hnc84 := NB198_197.out
            have hnb85 := NB197_206.out
            have hnc85 := NB206_197.out
            have hcz86_0 : w21.cell? ⟨gb197, 0, none⟩ = some (.int .u64 a0_0) := (blk_cell BK197.out 0).trans rfl
            have hcz86_1 : w21.cell? ⟨gb197, 1, none⟩ = some (.int .i64 a0_1) := (blk_cell BK197.out 1).trans rfl
            have hcz86_2 : w21.cell? ⟨gb197, 2, none⟩ = some (.slice A0_2 l0_2.length c0_2) := (blk_cell BK197.out 2).trans rfl
            have hfz86_0 := blk_frozen BK197.out 0
            have hfz86_1 := blk_frozen BK197.out 1
            have hfz86_2 := blk_frozen BK197.out 2
            go_wp2_with (first | (go_at_call 11; (with_reducible refine (rillmeterlaw10_ref.calls a0_0 a0_1 (fun k_ => k_ < w.heap.size) _ _ l0_2 t207 t208 t209 _ ?side1 A26.out).mono ?_); (case side1 => exact Kd.V_mk HC0_2.out (Kd.F_below (Kd.C_F Kd.heap_bool HR0_2.out) (bl_ HB))); rintro e w87 ⟨v210, rfl, ho0, hb⟩; have n0_ := Aside0.mk (Kd.R_below (by (with_reducible repeat (first | apply Kd.R_alloc | apply Kd.R_drewN | apply Kd.R_drew)); exact (Kd.R_mono (Kd.R_far (p := ⟨gb206, 2, none⟩) (Kd.R_far (p := ⟨gb206, 1, none⟩) (Kd.R_far (p := ⟨gb206, 0, none⟩) (Kd.R_types HO204.out BK206.out (by decide)) (fun _ hk => hk.2) (.int .u64 t200)) (fun _ hk => hk.2) (.int .i64 t201)) (fun _ hk => hk.2) (.slice Ao25 t202.length co25)) (fun _ h_ => h_.1))) hb); have n1_ := Aside0.mk (Kd.V_lower (Kd.V_mono (ok' := fun k_ => some k_ ≠ (.slice Ao25 t202.length co25 : Value).ownBlock ∧ k_ ≠ gb197 ∧ k_ ≠ gb198 ∧ k_ ≠ gb206) ho0 (fun k_ hk_ => ⟨Or.elim hk_ (fun hs_ => fun e_ => Nat.not_le.2 hs_ (Kd.R_base HO204.out k_ e_.symm)) (fun hn_ => (Kd.fresh' (Kd.R_lt (by (with_reducible repeat (first | apply Kd.R_alloc | apply Kd.R_drewN | apply Kd.R_drew)); exact (Kd.R_mono (Kd.R_far (p := ⟨gb206, 2, none⟩) (Kd.R_far (p := ⟨gb206, 1, none⟩) (Kd.R_far (p := ⟨gb206, 0, none⟩) (Kd.R_types HO204.out BK206.out (by decide)) (fun _ hk => hk.2) (.int .u64 t200)) (fun _ hk => hk.2) (.int .i64 t201)) (fun _ hk => hk.2) (.slice Ao25 t202.length co25)) (fun _ h_ => h_.1)))) k_ hn_)), Or.elim hk_ (fun hs_ => fun e_ => Nat.not_le.2 hs_ (by rw [e_]; exact GW197.out)) (fun hn_ => (Kd.freshB (g := gb197) (o := .cells #[.int .u64 a0_0, .int .i64 a0_1, .slice A0_2 l0_2.length c0_2] 25 (0, 0)) (by (with_reducible repeat (first | refine blk_drewN ?_ _ | refine blk_drew ?_ | refine blk_alloc ?_ _)); refine blk_far ?_ NB197_206.out _; (with_reducible repeat (first | refine blk_drewN ?_ _ | refine blk_drew ?_ | refine blk_alloc ?_ _)); refine blk_far ?_ NB197_206.out _; (with_reducible repeat (first | refine blk_drewN ?_ _ | refine blk_drew ?_ | refine blk_alloc ?_ _)); refine blk_far ?_ NB197_206.out _; (with_reducible repeat (first | refine blk_drewN ?_ _ | refine blk_drew ?_ | refine blk_alloc ?_ _)); exact BK197.out) k_ hn_)), Or.elim hk_ (fun hs_ => fun e_ => Nat.not_le.2 hs_ (by rw [e_]; exact GW198.out)) (fun hn_ => (Kd.freshB (g := gb198) (o := .cells #[.int .u64 a1_0, .int .i64 a1_1, .slice A1_2 l1_2.length c1_2] 25 (0, 0)) (by (with_reducible repeat (first | refine blk_drewN ?_ _ | refine blk_drew ?_ | refine blk_alloc ?_ _)); refine blk_far ?_ NB198_206.out _; (with_reducible repeat (first | refine blk_drewN ?_ _ | refine blk_drew ?_ | refine blk_alloc ?_ _)); refine blk_far ?_ NB198_206.out _; (with_reducible repeat (first | refine blk_drewN ?_ _ | refine blk_drew ?_ | refine blk_alloc ?_ _)); refine blk_far ?_ NB198_206.out _; (with_reducible repeat (first | refine blk_drewN ?_ _ | refine blk_drew ?_ | refine blk_alloc ?_ _)); exact BK198.out) k_ hn_)), Or.elim hk_ (fun hs_ => fun e_ => Nat.not_le.2 hs_ (by rw [e_]; exact GW206.out)) (fun hn_ => (Kd.freshB (g := gb206) (o := .cells #[.int .u64 t200, .int .i64 t201, .slice Ao25 t202.length co25] 25 (0, 0)) (by (with_reducible repeat (first | refine blk_drewN ?_ _ | refine blk_drew ?_ | refine blk_alloc ?_ _)); refine blk_put (cs := #[.int .u64 t200, .int .i64 t201, .slice none 0 0]) ?_ 2 _ rfl; (with_reducible repeat (first | refine blk_drewN ?_ _ | refine blk_drew ?_ | refine blk_alloc ?_ _)); refine blk_put (cs := #[.int .u64 t200, .int .i64 0, .slice none 0 0]) ?_ 1 _ rfl; (with_reducible repeat (first | refine blk_drewN ?_ _ | refine blk_drew ?_ | refine blk_alloc ?_ _)); refine blk_put (cs := #[.int .u64 0, .int .i64 0, .slice none 0 0]) ?_ 0 _ rfl; (with_reducible repeat (first | refine blk_drewN ?_ _ | refine blk_drew ?_ | refine blk_alloc ?_ _)); exact BK206.out) k_ hn_))⟩)) (below_size (bl_ HB))); have n2_ := Aside0.mk (blk_below (g := gb197) (o := .cells #[.int .u64 a0_0, .int .i64 a0_1, .slice A0_2 l0_2.length c0_2] 25 (0, 0)) (by (with_reducible repeat (first | refine blk_drewN ?_ _ | refine blk_drew ?_ | refine blk_alloc ?_ _)); refine blk_far ?_ NB197_206.out _; (with_reducible repeat (first | refine blk_drewN ?_ _ | refine blk_drew ?_ | refine blk_alloc ?_ _)); refine blk_far ?_ NB197_206.out _; (with_reducible repeat (first | refine blk_drewN ?_ _ | refine blk_drew ?_ | refine blk_alloc ?_ _)); refine blk_far ?_ NB197_206.out _; (with_reducible repeat (first | refine blk_drewN ?_ _ | refine blk_drew ?_ | refine blk_alloc ?_ _)); exact BK197.out) hb); have n3_ := Aside0.mk (blk_below (g := gb198) (o := .cells #[.int .u64 a1_0, .int .i64 a1_1, .slice A1_2 l1_2.length c1_2] 25 (0, 0)) (by (with_reducible repeat (first | refine blk_drewN ?_ _ | refine blk_drew ?_ | refine blk_alloc ?_ _)); refine blk_far ?_ NB198_206.out _; (with_reducible repeat (first | refine blk_drewN ?_ _ | refine blk_drew ?_ | refine blk_alloc ?_ _)); refine blk_far ?_ NB198_206.out _; (with_reducible repeat (first | refine blk_drewN ?_ _ | refine blk_drew ?_ | refine blk_alloc ?_ _)); refine blk_far ?_ NB198_206.out _; (with_reducible repeat (first | refine blk_drewN ?_ _ | refine blk_drew ?_ | refine blk_alloc ?_ _)); exact BK198.out) hb); have n4_ := Aside0.mk (blk_below (g := gb206) (o := .cells #[.int .u64 t200, .int .i64 t201, .slice Ao25 t202.length co25] 25 (0, 0)) (by (with_reducible repeat (first | refine blk_drewN ?_ _ | refine blk_drew ?_ | refine blk_alloc ?_ _)); refine blk_put (cs := #[.int .u64 t200, .int .i64 t201, .slice none 0 0]) ?_ 2 _ rfl; (with_reducible repeat (first | refine blk_drewN ?_ _ | refine blk_drew ?_ | refine blk_alloc ?_ _)); refine blk_put (cs := #[.int .u64 t200, .int .i64 0, .slice none 0 0]) ?_ 1 _ rfl; (with_reducible repeat (first | refine blk_drewN ?_ _ | refine blk_drew ?_ | refine blk_alloc ?_ _)); refine blk_put (cs := #[.int .u64 0, .int .i64 0, .slice none 0 0]) ?_ 0 _ rfl; (with_reducible repeat (first | refine blk_drewN ?_ _ | refine blk_drew ?_ | refine blk_alloc ?_ _)); exact BK206.out) hb); have n5_ := Aside0.mk (below_step (bl_ HB) hb); clear HO204; clear BK197; clear BK198; clear BK206; clear HB; have HO204 := n0_; have HO211 := n1_; have BK197 := n2_; have BK198 := n3_; have BK206 := n4_; have HB := n5_; clear n0_ n1_ n2_ n3_ n4_ n5_; (try clear hb); (try clear hb2); (try clear hk); (try clear hi); (try clear ho0); obtain ⟨Ao88, co88, eo88⟩ := Kd.V_slice HO211.out; subst eo88) | (go_at_call 18; (with_reducible refine (rillmeterref10_Right.calls t207 t208 _ _ t209 false _ ?side1 ?side2 A27.out).mono ?_); (case side1 => repeat (first | exact (Kd.V_reads' HO211.out).2.2 | (with_reducible refine Kd.C_alloc ?_ _) | (with_reducible refine Kd.C_drewN ?_ _) | (with_reducible refine Kd.C_drew ?_))); (case side2 => exact (Kd.V_reads' HO211.out).2.1); rintro e w89 ⟨rfl, hb⟩; have n0_ := Aside0.mk (Kd.R_below (by (with_reducible repeat (first | apply Kd.R_alloc | apply Kd.R_drewN | apply Kd.R_drew)); exact HO204.out) hb); have n1_ := Aside0.mk (Kd.V_below (by (with_reducible repeat (first | apply Kd.V_alloc | apply Kd.V_drewN | apply Kd.V_drew)); exact HO211.out) hb); have n2_ := Aside0.mk (blk_below (bk_ BK197) hb); have n3_ := Aside0.mk (blk_below (bk_ BK198) hb); have n4_ := Aside0.mk (blk_below (bk_ BK206) hb); have n5_ := Aside0.mk (below_step (bl_ HB) hb); clear HO204; clear HO211; clear BK197; clear BK198; clear BK206; clear HB; have HO204 := n0_; have HO211 := n1_; have BK197 := n2_; have BK198 := n3_; have BK206 := n4_; have HB := n5_; clear n0_ n1_ n2_ n3_ n4_ n5_; (try clear hb); (try clear hb2); (try clear hk); (try clear hi)))
            repeat (go_quiet (first | (go_at_call 11; (with_reducible refine (rillmeterlaw10_ref.calls a0_0 a0_1 (fun k_ => k_ < w.heap.size) _ _ l0_2 t207 t208 t209 _ ?side1 A26.out).mono ?_); (case side1 => exact Kd.V_mk HC0_2.out (Kd.F_below (Kd.C_F Kd.heap_bool HR0_2.out) (bl_ HB))); rintro e w87 ⟨v210, rfl, ho0, hb⟩; have n0_ := Aside0.mk (Kd.R_below (by (with_reducible repeat (first | apply Kd.R_alloc | apply Kd.R_drewN | apply Kd.R_drew)); exact (Kd.R_mono (Kd.R_far (p := ⟨gb206, 2, none⟩) (Kd.R_far (p := ⟨gb206, 1, none⟩) (Kd.R_far (p := ⟨gb206, 0, none⟩) (Kd.R_types HO204.out BK206.out (by decide)) (fun _ hk => hk.2) (.int .u64 t200)) (fun _ hk => hk.2) (.int .i64 t201)) (fun _ hk => hk.2) (.slice Ao25 t202.length co25)) (fun _ h_ => h_.1))) hb); have n1_ := Aside0.mk (Kd.V_lower (Kd.V_mono (ok' := fun k_ => some k_ ≠ (.slice Ao25 t202.length co25 : Value).ownBlock ∧ k_ ≠ gb197 ∧ k_ ≠ gb198 ∧ k_ ≠ gb206) ho0 (fun k_ hk_ => ⟨Or.elim hk_ (fun hs_ => fun e_ => Nat.not_le.2 hs_ (Kd.R_base HO204.out k_ e_.symm)) (fun hn_ => (Kd.fresh' (Kd.R_lt (by (with_reducible repeat (first | apply Kd.R_alloc | apply Kd.R_drewN | apply Kd.R_drew)); exact (Kd.R_mono (Kd.R_far (p := ⟨gb206, 2, none⟩) (Kd.R_far (p := ⟨gb206, 1, none⟩) (Kd.R_far (p := ⟨gb206, 0, none⟩) (Kd.R_types HO204.out BK206.out (by decide)) (fun _ hk => hk.2) (.int .u64 t200)) (fun _ hk => hk.2) (.int .i64 t201)) (fun _ hk => hk.2) (.slice Ao25 t202.length co25)) (fun _ h_ => h_.1)))) k_ hn_)), Or.elim hk_ (fun hs_ => fun e_ => Nat.not_le.2 hs_ (by rw [e_]; exact GW197.out)) (fun hn_ => (Kd.freshB (g := gb197) (o := .cells #[.int .u64 a0_0, .int .i64 a0_1, .slice A0_2 l0_2.length c0_2] 25 (0, 0)) (by (with_reducible repeat (first | refine blk_drewN ?_ _ | refine blk_drew ?_ | refine blk_alloc ?_ _)); refine blk_far ?_ NB197_206.out _; (with_reducible repeat (first | refine blk_drewN ?_ _ | refine blk_drew ?_ | refine blk_alloc ?_ _)); refine blk_far ?_ NB197_206.out _; (with_reducible repeat (first | refine blk_drewN ?_ _ | refine blk_drew ?_ | refine blk_alloc ?_ _)); refine blk_far ?_ NB197_206.out _; (with_reducible repeat (first | refine blk_drewN ?_ _ | refine blk_drew ?_ | refine blk_alloc ?_ _)); exact BK197.out) k_ hn_)), Or.elim hk_ (fun hs_ => fun e_ => Nat.not_le.2 hs_ (by rw [e_]; exact GW198.out)) (fun hn_ => (Kd.freshB (g := gb198) (o := .cells #[.int .u64 a1_0, .int .i64 a1_1, .slice A1_2 l1_2.length c1_2] 25 (0, 0)) (by (with_reducible repeat (first | refine blk_drewN ?_ _ | refine blk_drew ?_ | refine blk_alloc ?_ _)); refine blk_far ?_ NB198_206.out _; (with_reducible repeat (first | refine blk_drewN ?_ _ | refine blk_drew ?_ | refine blk_alloc ?_ _)); refine blk_far ?_ NB198_206.out _; (with_reducible repeat (first | refine blk_drewN ?_ _ | refine blk_drew ?_ | refine blk_alloc ?_ _)); refine blk_far ?_ NB198_206.out _; (with_reducible repeat (first | refine blk_drewN ?_ _ | refine blk_drew ?_ | refine blk_alloc ?_ _)); exact BK198.out) k_ hn_)), Or.elim hk_ (fun hs_ => fun e_ => Nat.not_le.2 hs_ (by rw [e_]; exact GW206.out)) (fun hn_ => (Kd.freshB (g := gb206) (o := .cells #[.int .u64 t200, .int .i64 t201, .slice Ao25 t202.length co25] 25 (0, 0)) (by (with_reducible repeat (first | refine blk_drewN ?_ _ | refine blk_drew ?_ | refine blk_alloc ?_ _)); refine blk_put (cs := #[.int .u64 t200, .int .i64 t201, .slice none 0 0]) ?_ 2 _ rfl; (with_reducible repeat (first | refine blk_drewN ?_ _ | refine blk_drew ?_ | refine blk_alloc ?_ _)); refine blk_put (cs := #[.int .u64 t200, .int .i64 0, .slice none 0 0]) ?_ 1 _ rfl; (with_reducible repeat (first | refine blk_drewN ?_ _ | refine blk_drew ?_ | refine blk_alloc ?_ _)); refine blk_put (cs := #[.int .u64 0, .int .i64 0, .slice none 0 0]) ?_ 0 _ rfl; (with_reducible repeat (first | refine blk_drewN ?_ _ | refine blk_drew ?_ | refine blk_alloc ?_ _)); exact BK206.out) k_ hn_))⟩)) (below_size (bl_ HB))); have n2_ := Aside0.mk (blk_below (g := gb197) (o := .cells #[.int .u64 a0_0, .int .i64 a0_1, .slice A0_2 l0_2.length c0_2] 25 (0, 0)) (by (with_reducible repeat (first | refine blk_drewN ?_ _ | refine blk_drew ?_ | refine blk_alloc ?_ _)); refine blk_far ?_ NB197_206.out _; (with_reducible repeat (first | refine blk_drewN ?_ _ | refine blk_drew ?_ | refine blk_alloc ?_ _)); refine blk_far ?_ NB197_206.out _; (with_reducible repeat (first | refine blk_drewN ?_ _ | refine blk_drew ?_ | refine blk_alloc ?_ _)); refine blk_far ?_ NB197_206.out _; (with_reducible repeat (first | refine blk_drewN ?_ _ | refine blk_drew ?_ | refine blk_alloc ?_ _)); exact BK197.out) hb); have n3_ := Aside0.mk (blk_below (g := gb198) (o := .cells #[.int .u64 a1_0, .int .i64 a1_1, .slice A1_2 l1_2.length c1_2] 25 (0, 0)) (by (with_reducible repeat (first | refine blk_drewN ?_ _ | refine blk_drew ?_ | refine blk_alloc ?_ _)); refine blk_far ?_ NB198_206.out _; (with_reducible repeat (first | refine blk_drewN ?_ _ | refine blk_drew ?_ | refine blk_alloc ?_ _)); refine blk_far ?_ NB198_206.out _; (with_reducible repeat (first | refine blk_drewN ?_ _ | refine blk_drew ?_ | refine blk_alloc ?_ _)); refine blk_far ?_ NB198_206.out _; (with_reducible repeat (first | refine blk_drewN ?_ _ | refine blk_drew ?_ | refine blk_alloc ?_ _)); exact BK198.out) hb); have n4_ := Aside0.mk (blk_below (g := gb206) (o := .cells #[.int .u64 t200, .int .i64 t201, .slice Ao25 t202.length co25] 25 (0, 0)) (by (with_reducible repeat (first | refine blk_drewN ?_ _ | refine blk_drew ?_ | refine blk_alloc ?_ _)); refine blk_put (cs := #[.int .u64 t200, .int .i64 t201, .slice none 0 0]) ?_ 2 _ rfl; (with_reducible repeat (first | refine blk_drewN ?_ _ | refine blk_drew ?_ | refine blk_alloc ?_ _)); refine blk_put (cs := #[.int .u64 t200, .int .i64 0, .slice none 0 0]) ?_ 1 _ rfl; (with_reducible repeat (first | refine blk_drewN ?_ _ | refine blk_drew ?_ | refine blk_alloc ?_ _)); refine blk_put (cs := #[.int .u64 0, .int .i64 0, .slice none 0 0]) ?_ 0 _ rfl; (with_reducible repeat (first | refine blk_drewN ?_ _ | refine blk_drew ?_ | refine blk_alloc ?_ _)); exact BK206.out) hb); have n5_ := Aside0.mk (below_step (bl_ HB) hb); clear HO204; clear BK197; clear BK198; clear BK206; clear HB; have HO204 := n0_; have HO211 := n1_; have BK197 := n2_; have BK198 := n3_; have BK206 := n4_; have HB := n5_; clear n0_ n1_ n2_ n3_ n4_ n5_; (try clear hb); (try clear hb2); (try clear hk); (try clear hi); (try clear ho0); obtain ⟨Ao88, co88, eo88⟩ := Kd.V_slice HO211.out; subst eo88) | (go_at_call 18; (with_reducible refine (rillmeterref10_Right.calls t207 t208 _ _ t209 false _ ?side1 ?side2 A27.out).mono ?_); (case side1 => repeat (first | exact (Kd.V_reads' HO211.out).2.2 | (with_reducible refine Kd.C_alloc ?_ _) | (with_reducible refine Kd.C_drewN ?_ _) | (with_reducible refine Kd.C_drew ?_))); (case side2 => exact (Kd.V_reads' HO211.out).2.1); rintro e w89 ⟨rfl, hb⟩; have n0_ := Aside0.mk (Kd.R_below (by (with_reducible repeat (first | apply Kd.R_alloc | apply Kd.R_drewN | apply Kd.R_drew)); exact HO204.out) hb); have n1_ := Aside0.mk (Kd.V_below (by (with_reducible repeat (first | apply Kd.V_alloc | apply Kd.V_drewN | apply Kd.V_drew)); exact HO211.out) hb); have n2_ := Aside0.mk (blk_below (bk_ BK197) hb); have n3_ := Aside0.mk (blk_below (bk_ BK198) hb); have n4_ := Aside0.mk (blk_below (bk_ BK206) hb); have n5_ := Aside0.mk (below_step (bl_ HB) hb); clear HO204; clear HO211; clear BK197; clear BK198; clear BK206; clear HB; have HO204 := n0_; have HO211 := n1_; have BK197 := n2_; have BK198 := n3_; have BK206 := n4_; have HB := n5_; clear n0_ n1_ n2_ n3_ n4_ n5_; (try clear hb); (try clear hb2); (try clear hk); (try clear hi))); try go_wp2_with (first | (go_at_call 11; (with_reducible refine (rillmeterlaw10_ref.calls a0_0 a0_1 (fun k_ => k_ < w.heap.size) _ _ l0_2 t207 t208 t209 _ ?side1 A26.out).mono ?_); (case side1 => exact Kd.V_mk HC0_2.out (Kd.F_below (Kd.C_F Kd.heap_bool HR0_2.out) (bl_ HB))); rintro e w87 ⟨v210, rfl, ho0, hb⟩; have n0_ := Aside0.mk (Kd.R_below (by (with_reducible repeat (first | apply Kd.R_alloc | apply Kd.R_drewN | apply Kd.R_drew)); exact (Kd.R_mono (Kd.R_far (p := ⟨gb206, 2, none⟩) (Kd.R_far (p := ⟨gb206, 1, none⟩) (Kd.R_far (p := ⟨gb206, 0, none⟩) (Kd.R_types HO204.out BK206.out (by decide)) (fun _ hk => hk.2) (.int .u64 t200)) (fun _ hk => hk.2) (.int .i64 t201)) (fun _ hk => hk.2) (.slice Ao25 t202.length co25)) (fun _ h_ => h_.1))) hb); have n1_ := Aside0.mk (Kd.V_lower (Kd.V_mono (ok' := fun k_ => some k_ ≠ (.slice Ao25 t202.length co25 : Value).ownBlock ∧ k_ ≠ gb197 ∧ k_ ≠ gb198 ∧ k_ ≠ gb206) ho0 (fun k_ hk_ => ⟨Or.elim hk_ (fun hs_ => fun e_ => Nat.not_le.2 hs_ (Kd.R_base HO204.out k_ e_.symm)) (fun hn_ => (Kd.fresh' (Kd.R_lt (by (with_reducible repeat (first | apply Kd.R_alloc | apply Kd.R_drewN | apply Kd.R_drew)); exact (Kd.R_mono (Kd.R_far (p := ⟨gb206, 2, none⟩) (Kd.R_far (p := ⟨gb206, 1, none⟩) (Kd.R_far (p := ⟨gb206, 0, none⟩) (Kd.R_types HO204.out BK206.out (by decide)) (fun _ hk => hk.2) (.int .u64 t200)) (fun _ hk => hk.2) (.int .i64 t201)) (fun _ hk => hk.2) (.slice Ao25 t202.length co25)) (fun _ h_ => h_.1)))) k_ hn_)), Or.elim hk_ (fun hs_ => fun e_ => Nat.not_le.2 hs_ (by rw [e_]; exact GW197.out)) (fun hn_ => (Kd.freshB (g := gb197) (o := .cells #[.int .u64 a0_0, .int .i64 a0_1, .slice A0_2 l0_2.length c0_2] 25 (0, 0)) (by (with_reducible repeat (first | refine blk_drewN ?_ _ | refine blk_drew ?_ | refine blk_alloc ?_ _)); refine blk_far ?_ NB197_206.out _; (with_reducible repeat (first | refine blk_drewN ?_ _ | refine blk_drew ?_ | refine blk_alloc ?_ _)); refine blk_far ?_ NB197_206.out _; (with_reducible repeat (first | refine blk_drewN ?_ _ | refine blk_drew ?_ | refine blk_alloc ?_ _)); refine blk_far ?_ NB197_206.out _; (with_reducible repeat (first | refine blk_drewN ?_ _ | refine blk_drew ?_ | refine blk_alloc ?_ _)); exact BK197.out) k_ hn_)), Or.elim hk_ (fun hs_ => fun e_ => Nat.not_le.2 hs_ (by rw [e_]; exact GW198.out)) (fun hn_ => (Kd.freshB (g := gb198) (o := .cells #[.int .u64 a1_0, .int .i64 a1_1, .slice A1_2 l1_2.length c1_2] 25 (0, 0)) (by (with_reducible repeat (first | refine blk_drewN ?_ _ | refine blk_drew ?_ | refine blk_alloc ?_ _)); refine blk_far ?_ NB198_206.out _; (with_reducible repeat (first | refine blk_drewN ?_ _ | refine blk_drew ?_ | refine blk_alloc ?_ _)); refine blk_far ?_ NB198_206.out _; (with_reducible repeat (first | refine blk_drewN ?_ _ | refine blk_drew ?_ | refine blk_alloc ?_ _)); refine blk_far ?_ NB198_206.out _; (with_reducible repeat (first | refine blk_drewN ?_ _ | refine blk_drew ?_ | refine blk_alloc ?_ _)); exact BK198.out) k_ hn_)), Or.elim hk_ (fun hs_ => fun e_ => Nat.not_le.2 hs_ (by rw [e_]; exact GW206.out)) (fun hn_ => (Kd.freshB (g := gb206) (o := .cells #[.int .u64 t200, .int .i64 t201, .slice Ao25 t202.length co25] 25 (0, 0)) (by (with_reducible repeat (first | refine blk_drewN ?_ _ | refine blk_drew ?_ | refine blk_alloc ?_ _)); refine blk_put (cs := #[.int .u64 t200, .int .i64 t201, .slice none 0 0]) ?_ 2 _ rfl; (with_reducible repeat (first | refine blk_drewN ?_ _ | refine blk_drew ?_ | refine blk_alloc ?_ _)); refine blk_put (cs := #[.int .u64 t200, .int .i64 0, .slice none 0 0]) ?_ 1 _ rfl; (with_reducible repeat (first | refine blk_drewN ?_ _ | refine blk_drew ?_ | refine blk_alloc ?_ _)); refine blk_put (cs := #[.int .u64 0, .int .i64 0, .slice none 0 0]) ?_ 0 _ rfl; (with_reducible repeat (first | refine blk_drewN ?_ _ | refine blk_drew ?_ | refine blk_alloc ?_ _)); exact BK206.out) k_ hn_))⟩)) (below_size (bl_ HB))); have n2_ := Aside0.mk (blk_below (g := gb197) (o := .cells #[.int .u64 a0_0, .int .i64 a0_1, .slice A0_2 l0_2.length c0_2] 25 (0, 0)) (by (with_reducible repeat (first | refine blk_drewN ?_ _ | refine blk_drew ?_ | refine blk_alloc ?_ _)); refine blk_far ?_ NB197_206.out _; (with_reducible repeat (first | refine blk_drewN ?_ _ | refine blk_drew ?_ | refine blk_alloc ?_ _)); refine blk_far ?_ NB197_206.out _; (with_reducible repeat (first | refine blk_drewN ?_ _ | refine blk_drew ?_ | refine blk_alloc ?_ _)); refine blk_far ?_ NB197_206.out _; (with_reducible repeat (first | refine blk_drewN ?_ _ | refine blk_drew ?_ | refine blk_alloc ?_ _)); exact BK197.out) hb); have n3_ := Aside0.mk (blk_below (g := gb198) (o := .cells #[.int .u64 a1_0, .int .i64 a1_1, .slice A1_2 l1_2.length c1_2] 25 (0, 0)) (by (with_reducible repeat (first | refine blk_drewN ?_ _ | refine blk_drew ?_ | refine blk_alloc ?_ _)); refine blk_far ?_ NB198_206.out _; (with_reducible repeat (first | refine blk_drewN ?_ _ | refine blk_drew ?_ | refine blk_alloc ?_ _)); refine blk_far ?_ NB198_206.out _; (with_reducible repeat (first | refine blk_drewN ?_ _ | refine blk_drew ?_ | refine blk_alloc ?_ _)); refine blk_far ?_ NB198_206.out _; (with_reducible repeat (first | refine blk_drewN ?_ _ | refine blk_drew ?_ | refine blk_alloc ?_ _)); exact BK198.out) hb); have n4_ := Aside0.mk (blk_below (g := gb206) (o := .cells #[.int .u64 t200, .int .i64 t201, .slice Ao25 t202.length co25] 25 (0, 0)) (by (with_reducible repeat (first | refine blk_drewN ?_ _ | refine blk_drew ?_ | refine blk_alloc ?_ _)); refine blk_put (cs := #[.int .u64 t200, .int .i64 t201, .slice none 0 0]) ?_ 2 _ rfl; (with_reducible repeat (first | refine blk_drewN ?_ _ | refine blk_drew ?_ | refine blk_alloc ?_ _)); refine blk_put (cs := #[.int .u64 t200, .int .i64 0, .slice none 0 0]) ?_ 1 _ rfl; (with_reducible repeat (first | refine blk_drewN ?_ _ | refine blk_drew ?_ | refine blk_alloc ?_ _)); refine blk_put (cs := #[.int .u64 0, .int .i64 0, .slice none 0 0]) ?_ 0 _ rfl; (with_reducible repeat (first | refine blk_drewN ?_ _ | refine blk_drew ?_ | refine blk_alloc ?_ _)); exact BK206.out) hb); have n5_ := Aside0.mk (below_step (bl_ HB) hb); clear HO204; clear BK197; clear BK198; clear BK206; clear HB; have HO204 := n0_; have HO211 := n1_; have BK197 := n2_; have BK198 := n3_; have BK206 := n4_; have HB := n5_; clear n0_ n1_ n2_ n3_ n4_ n5_; (try clear hb); (try clear hb2); (try clear hk); (try clear hi); (try clear ho0); obtain ⟨Ao88, co88, eo88⟩ := Kd.V_slice HO211.out; subst eo88) | (go_at_call 18; (with_reducible refine (rillmeterref10_Right.calls t207 t208 _ _ t209 false _ ?side1 ?side2 A27.out).mono ?_); (case side1 => repeat (first | exact (Kd.V_reads' HO211.out).2.2 | (with_reducible refine Kd.C_alloc ?_ _) | (with_reducible refine Kd.C_drewN ?_ _) | (with_reducible refine Kd.C_drew ?_))); (case side2 => exact (Kd.V_reads' HO211.out).2.1); rintro e w89 ⟨rfl, hb⟩; have n0_ := Aside0.mk (Kd.R_below (by (with_reducible repeat (first | apply Kd.R_alloc | apply Kd.R_drewN | apply Kd.R_drew)); exact HO204.out) hb); have n1_ := Aside0.mk (Kd.V_below (by (with_reducible repeat (first | apply Kd.V_alloc | apply Kd.V_drewN | apply Kd.V_drew)); exact HO211.out) hb); have n2_ := Aside0.mk (blk_below (bk_ BK197) hb); have n3_ := Aside0.mk (blk_below (bk_ BK198) hb); have n4_ := Aside0.mk (blk_below (bk_ BK206) hb); have n5_ := Aside0.mk (below_step (bl_ HB) hb); clear HO204; clear HO211; clear BK197; clear BK198; clear BK206; clear HB; have HO204 := n0_; have HO211 := n1_; have BK197 := n2_; have BK198 := n3_; have BK206 := n4_; have HB := n5_; clear n0_ n1_ n2_ n3_ n4_ n5_; (try clear hb); (try clear hb2); (try clear hk); (try clear hi))))
            go_meet
            case rel => exact ⟨_, (true), (by first | rfl | (simp; done) | (simp [*]; done)), H', ⟨by have := HJ2.out; first | omega | exact Nat.le_refl _⟩, ⟨by (with_reducible repeat (first | apply Kd.R_alloc | apply Kd.R_drewN | apply Kd.R_drew)); exact HO204.out⟩, ⟨bk_ BK197⟩, ⟨bk_ BK198⟩, ⟨bk_ BK206⟩, ⟨bl_ HB⟩⟩
        case rest =>
          clear HC16
          try clear c1
          try clear c2
          try clear p2
          try clear c3
          try clear c4
          try clear c5
          try clear c6
          try clear c6b0
          try clear c6b1
          try clear c7
          try clear c8
          try clear c9
          try clear c12
          try clear c17
          try clear c22
          try clear c23
          try clear c28
          try clear c31
          try clear c32
          try clear c32b0
          try clear c32b1
          try clear c33
          try clear c33b0
          try clear c33b1
          try clear c34
          try clear c35
          try clear c40
          try clear c47
          try clear c48
          try clear c53
          try clear c60
          try clear c61
          try clear c66
          try clear c73
          try clear c74
          try clear c79
          try clear c84
          try clear c85
          try clear hcz10_0
          try clear hcz10_1
          try clear hcz10_2
          try clear hcz11_0
          try clear hcz11_1
          try clear hcz11_2
          try clear hcz18_0
          try clear hcz18_1
          try clear hcz18_2
          try clear hcz19_0
          try clear hcz19_1
          try clear hcz19_2
          try clear hcz24_0
          try clear hcz24_1
          try clear hcz24_2
          try clear hcz36_0
          try clear hcz36_1
          try clear hcz36_2
          try clear hcz41_0
          try clear hcz41_1
          try clear hcz41_2
          try clear hcz45_0
          try clear hcz45_1
          try clear hcz45_2
          try clear hcz46_0
          try clear hcz46_1
          try clear hcz46_2
          try clear hcz49_0
          try clear hcz49_1
          try clear hcz49_2
          try clear hcz54_0
          try clear hcz54_1
          try clear hcz54_2
          try clear hcz58_0
          try clear hcz58_1
          try clear hcz58_2
          try clear hcz59_0
          try clear hcz59_1
          try clear hcz59_2
          try clear hcz62_0
          try clear hcz62_1
          try clear hcz62_2
          try clear hcz67_0
          try clear hcz67_1
          try clear hcz67_2
          try clear hcz71_0
          try clear hcz71_1
          try clear hcz71_2
          try clear hcz72_0
          try clear hcz72_1
          try clear hcz72_2
          try clear hcz75_0
          try clear hcz75_1
          try clear hcz75_2
          try clear hcz80_0
          try clear hcz80_1
          try clear hcz80_2
          try clear hcz86_0
          try clear hcz86_1
          try clear hcz86_2
          try clear hcz8_0
          try clear hcz8_1
          try clear hcz8_2
          try clear hfz10_0
          try clear hfz10_1
          try clear hfz10_2
          try clear hfz11_0
          try clear hfz11_1
          try clear hfz11_2
          try clear hfz18_0
          try clear hfz18_1
          try clear hfz18_2
          try clear hfz19_0
          try clear hfz19_1
          try clear hfz19_2
          try clear hfz24_0
          try clear hfz24_1
          try clear hfz24_2
          try clear hfz36_0
          try clear hfz36_1
          try clear hfz36_2
          try clear hfz41_0
          try clear hfz41_1
          try clear hfz41_2
          try clear hfz45_0
          try clear hfz45_1
          try clear hfz45_2
          try clear hfz46_0
          try clear hfz46_1
          try clear hfz46_2
          try clear hfz49_0
          try clear hfz49_1
          try clear hfz49_2
          try clear hfz54_0
          try clear hfz54_1
          try clear hfz54_2
          try clear hfz58_0
          try clear hfz58_1
          try clear hfz58_2
          try clear hfz59_0
          try clear hfz59_1
          try clear hfz59_2
          try clear hfz62_0
          try clear hfz62_1
          try clear hfz62_2
          try clear hfz67_0
          try clear hfz67_1
          try clear hfz67_2
          try clear hfz71_0
          try clear hfz71_1
          try clear hfz71_2
          try clear hfz72_0
          try clear hfz72_1
          try clear hfz72_2
          try clear hfz75_0
          try clear hfz75_1
          try clear hfz75_2
          try clear hfz80_0
          try clear hfz80_1
          try clear hfz80_2
          try clear hfz86_0
          try clear hfz86_1
          try clear hfz86_2
          try clear hfz8_0
          try clear hfz8_1
          try clear hfz8_2
          try clear p2
          obtain ⟨kq, x57_15, rfl, HA, HJ15, HO_207002, BK197, BK198, BK206, HB⟩ := hcut
          cases kq with
          | zero => exact absurd HA.out (by simp [rillmeterlaw10_BloomMerges.j1])
          | succ kj15 =>
            have H := HA.out
            clear HA
            simp only [rillmeterlaw10_BloomMerges.j1] at H
            by_cases c90 : x57_15 = true
            · subst c90
              have H1 : ((rillmeterlaw10_ref.f t200 t201 t202).bind fun bt219 => ((rillmeterref10_Equal.f kj15 bt219.1 bt219.2.1 bt219.2.2 0 0 ([] : List Bool)).bind fun t224 => (if t224 = true then (if t205 = 1 then ((rillmeterlaw10_awake.f kj15).bind fun t225 => (some t225)) else (some false)) else (some false)))) = some r := by rw [if_pos rfl] at H; exact H
              clear H
              have H := H1
              clear H1
              replace H := Option.bind_eq_some_iff.mp H
              obtain ⟨⟨t219, t220, t221⟩, A910, H⟩ := H
              replace H : ((rillmeterref10_Equal.f kj15 t219 t220 t221 0 0 ([] : List Bool)).bind fun t224 => (if t224 = true then (if t205 = 1 then ((rillmeterlaw10_awake.f kj15).bind fun t225 => (some t225)) else (some false)) else (some false))) = some r := H
              have A91 := Aside0.mk A910
              clear A910
              replace H := Option.bind_eq_some_iff.mp H
              obtain ⟨t224, A920, H⟩ := H
              replace H : (if t224 = true then (if t205 = 1 then ((rillmeterlaw10_awake.f kj15).bind fun t225 => (some t225)) else (some false)) else (some false)) = some r := H
              have A92 := Aside0.mk A920
              clear A920
              by_cases c93 : t224 = true
              · subst c93
                have H1 : (if t205 = 1 then ((rillmeterlaw10_awake.f kj15).bind fun t225 => (some t225)) else (some false)) = some r := by rw [if_pos rfl] at H; exact H
                clear H
                have H := H1
                clear H1
                by_cases c94 : t205 = 1
                · rw [if_pos c94] at H
                  have c94b0 : (t205 == 1) = true := beq_iff_eq.mpr c94
                  have c94b1 : (t205 != 1) = false := bne_eq_false_iff_eq.mpr c94
                  clear c94
                  replace H := Option.bind_eq_some_iff.mp H
                  obtain ⟨t225, A950, H⟩ := H
                  replace H : (some t225) = some r := H
                  have A95 := Aside0.mk A950
                  clear A950
                  obtain rfl := Option.some.inj H
                  have hnb96 := NB206_197.out
                  have hnc96 := NB197_206.out
                  have hnb97 := NB206_198.out
                  have hnc97 := NB198_206.out
                  have hcz98_0 : wc.cell? ⟨gb206, 0, none⟩ = some (.int .u64 t200) := (blk_cell BK206.out 0).trans rfl
                  have hcz98_1 : wc.cell? ⟨gb206, 1, none⟩ = some (.int .i64 t201) := (blk_cell BK206.out 1).trans rfl
                  have hcz98_2 : wc.cell? ⟨gb206, 2, none⟩ = some (.slice Ao25 t202.length co25) := (blk_cell BK206.out 2).trans rfl
                  have hfz98_0 := blk_frozen BK206.out 0
                  have hfz98_1 := blk_frozen BK206.out 1
                  have hfz98_2 := blk_frozen BK206.out 2
                  go_wp2_with (first | (go_at_call 11; (with_reducible refine (rillmeterlaw10_ref.calls t200 t201 (fun k_ => some k_ = (.slice Ao25 t202.length co25 : Value).ownBlock) _ _ t202 t219 t220 t221 _ ?side1 A91.out).mono ?_); (case side1 => exact Kd.R_V (Kd.R_tight rfl (Kd.R_types (Kd.R_types (Kd.R_types (HO_207002.out) BK197.out (by decide)) BK198.out (by decide)) BK206.out (by decide)))); rintro e w99 ⟨v222, rfl, ho0, hb⟩; have n0_ := Aside0.mk (Kd.R_below (by (with_reducible repeat (first | apply Kd.R_alloc | apply Kd.R_drewN | apply Kd.R_drew)); exact HO_207002.out) hb); have n1_ := Aside0.mk (Kd.V_lower (Kd.V_mono (ok' := fun k_ => k_ ≠ gb197 ∧ k_ ≠ gb198 ∧ k_ ≠ gb206) ho0 (fun k_ hk_ => ⟨Or.elim hk_ (fun hs_ => ((Kd.R_types (Kd.R_types (Kd.R_types (HO_207002.out) BK197.out (by decide)) BK198.out (by decide)) BK206.out (by decide)).1 k_ hs_.symm).1.1.2) (fun hn_ => (Kd.freshB (g := gb197) (o := .cells #[.int .u64 a0_0, .int .i64 a0_1, .slice A0_2 l0_2.length c0_2] 25 (0, 0)) (bk_ BK197) k_ hn_)), Or.elim hk_ (fun hs_ => ((Kd.R_types (Kd.R_types (Kd.R_types (HO_207002.out) BK197.out (by decide)) BK198.out (by decide)) BK206.out (by decide)).1 k_ hs_.symm).1.2) (fun hn_ => (Kd.freshB (g := gb198) (o := .cells #[.int .u64 a1_0, .int .i64 a1_1, .slice A1_2 l1_2.length c1_2] 25 (0, 0)) (bk_ BK198) k_ hn_)), Or.elim hk_ (fun hs_ => ((Kd.R_types (Kd.R_types (Kd.R_types (HO_207002.out) BK197.out (by decide)) BK198.out (by decide)) BK206.out (by decide)).1 k_ hs_.symm).2) (fun hn_ => (Kd.freshB (g := gb206) (o := .cells #[.int .u64 t200, .int .i64 t201, .slice Ao25 t202.length co25] 25 (0, 0)) (bk_ BK206) k_ hn_))⟩)) (below_size (bl_ HB))); have n2_ := Aside0.mk (blk_below (bk_ BK197) hb); have n3_ := Aside0.mk (blk_below (bk_ BK198) hb); have n4_ := Aside0.mk (blk_below (bk_ BK206) hb); have n5_ := Aside0.mk (below_step (bl_ HB) hb); clear HO_207002; clear BK197; clear BK198; clear BK206; clear HB; have HO_207002 := n0_; have HO223 := n1_; have BK197 := n2_; have BK198 := n3_; have BK206 := n4_; have HB := n5_; clear n0_ n1_ n2_ n3_ n4_ n5_; (try clear hb); (try clear hb2); (try clear hk); (try clear hi); (try clear ho0); obtain ⟨Ao100, co100, eo100⟩ := Kd.V_slice HO223.out; subst eo100) | (go_at_call 10; (refine (rillmeterref10_Equal.calls kj15 t219 t220 _ _ t221 0 0 _ _ ([] : List Bool) true _ ?side1 ?side2 ?side3 ?side4 A92.out).mono ?_); (case side1 => repeat (first | exact (Kd.V_reads' HO223.out).2.2 | (with_reducible refine Kd.C_alloc ?_ _) | (with_reducible refine Kd.C_drewN ?_ _) | (with_reducible refine Kd.C_drew ?_))); (case side2 => exact (Kd.V_reads' HO223.out).2.1); (case side3 => exact Kd.C_nil _ _); (case side4 => exact Nat.le_refl _); rintro e w101 ⟨rfl, hb⟩; have n0_ := Aside0.mk (Kd.R_below (by (with_reducible repeat (first | apply Kd.R_alloc | apply Kd.R_drewN | apply Kd.R_drew)); exact HO_207002.out) hb); have n1_ := Aside0.mk (Kd.V_below (by (with_reducible repeat (first | apply Kd.V_alloc | apply Kd.V_drewN | apply Kd.V_drew)); exact HO223.out) hb); have n2_ := Aside0.mk (blk_below (bk_ BK197) hb); have n3_ := Aside0.mk (blk_below (bk_ BK198) hb); have n4_ := Aside0.mk (blk_below (bk_ BK206) hb); have n5_ := Aside0.mk (below_step (bl_ HB) hb); clear HO_207002; clear HO223; clear BK197; clear BK198; clear BK206; clear HB; have HO_207002 := n0_; have HO223 := n1_; have BK197 := n2_; have BK198 := n3_; have BK206 := n4_; have HB := n5_; clear n0_ n1_ n2_ n3_ n4_ n5_; (try clear hb); (try clear hb2); (try clear hk); (try clear hi)) | (go_at_call 12; (with_reducible refine (rillmeterlaw10_awake.calls kj15  t225 _ A95.out).mono ?_); rintro e w102 ⟨rfl, hb⟩; have n0_ := Aside0.mk (Kd.R_below (by (with_reducible repeat (first | apply Kd.R_alloc | apply Kd.R_drewN | apply Kd.R_drew)); exact HO_207002.out) hb); have n1_ := Aside0.mk (Kd.V_below (by (with_reducible repeat (first | apply Kd.V_alloc | apply Kd.V_drewN | apply Kd.V_drew)); exact HO223.out) hb); have n2_ := Aside0.mk (blk_below (bk_ BK197) hb); have n3_ := Aside0.mk (blk_below (bk_ BK198) hb); have n4_ := Aside0.mk (blk_below (bk_ BK206) hb); have n5_ := Aside0.mk (below_step (bl_ HB) hb); clear HO_207002; clear HO223; clear BK197; clear BK198; clear BK206; clear HB; have HO_207002 := n0_; have HO223 := n1_; have BK197 := n2_; have BK198 := n3_; have BK206 := n4_; have HB := n5_; clear n0_ n1_ n2_ n3_ n4_ n5_; (try clear hb); (try clear hb2); (try clear hk); (try clear hi)))
                  repeat (go_quiet (first | (go_at_call 11; (with_reducible refine (rillmeterlaw10_ref.calls t200 t201 (fun k_ => some k_ = (.slice Ao25 t202.length co25 : Value).ownBlock) _ _ t202 t219 t220 t221 _ ?side1 A91.out).mono ?_); (case side1 => exact Kd.R_V (Kd.R_tight rfl (Kd.R_types (Kd.R_types (Kd.R_types (HO_207002.out) BK197.out (by decide)) BK198.out (by decide)) BK206.out (by decide)))); rintro e w99 ⟨v222, rfl, ho0, hb⟩; have n0_ := Aside0.mk (Kd.R_below (by (with_reducible repeat (first | apply Kd.R_alloc | apply Kd.R_drewN | apply Kd.R_drew)); exact HO_207002.out) hb); have n1_ := Aside0.mk (Kd.V_lower (Kd.V_mono (ok' := fun k_ => k_ ≠ gb197 ∧ k_ ≠ gb198 ∧ k_ ≠ gb206) ho0 (fun k_ hk_ => ⟨Or.elim hk_ (fun hs_ => ((Kd.R_types (Kd.R_types (Kd.R_types (HO_207002.out) BK197.out (by decide)) BK198.out (by decide)) BK206.out (by decide)).1 k_ hs_.symm).1.1.2) (fun hn_ => (Kd.freshB (g := gb197) (o := .cells #[.int .u64 a0_0, .int .i64 a0_1, .slice A0_2 l0_2.length c0_2] 25 (0, 0)) (bk_ BK197) k_ hn_)), Or.elim hk_ (fun hs_ => ((Kd.R_types (Kd.R_types (Kd.R_types (HO_207002.out) BK197.out (by decide)) BK198.out (by decide)) BK206.out (by decide)).1 k_ hs_.symm).1.2) (fun hn_ => (Kd.freshB (g := gb198) (o := .cells #[.int .u64 a1_0, .int .i64 a1_1, .slice A1_2 l1_2.length c1_2] 25 (0, 0)) (bk_ BK198) k_ hn_)), Or.elim hk_ (fun hs_ => ((Kd.R_types (Kd.R_types (Kd.R_types (HO_207002.out) BK197.out (by decide)) BK198.out (by decide)) BK206.out (by decide)).1 k_ hs_.symm).2) (fun hn_ => (Kd.freshB (g := gb206) (o := .cells #[.int .u64 t200, .int .i64 t201, .slice Ao25 t202.length co25] 25 (0, 0)) (bk_ BK206) k_ hn_))⟩)) (below_size (bl_ HB))); have n2_ := Aside0.mk (blk_below (bk_ BK197) hb); have n3_ := Aside0.mk (blk_below (bk_ BK198) hb); have n4_ := Aside0.mk (blk_below (bk_ BK206) hb); have n5_ := Aside0.mk (below_step (bl_ HB) hb); clear HO_207002; clear BK197; clear BK198; clear BK206; clear HB; have HO_207002 := n0_; have HO223 := n1_; have BK197 := n2_; have BK198 := n3_; have BK206 := n4_; have HB := n5_; clear n0_ n1_ n2_ n3_ n4_ n5_; (try clear hb); (try clear hb2); (try clear hk); (try clear hi); (try clear ho0); obtain ⟨Ao100, co100, eo100⟩ := Kd.V_slice HO223.out; subst eo100) | (go_at_call 10; (refine (rillmeterref10_Equal.calls kj15 t219 t220 _ _ t221 0 0 _ _ ([] : List Bool) true _ ?side1 ?side2 ?side3 ?side4 A92.out).mono ?_); (case side1 => repeat (first | exact (Kd.V_reads' HO223.out).2.2 | (with_reducible refine Kd.C_alloc ?_ _) | (with_reducible refine Kd.C_drewN ?_ _) | (with_reducible refine Kd.C_drew ?_))); (case side2 => exact (Kd.V_reads' HO223.out).2.1); (case side3 => exact Kd.C_nil _ _); (case side4 => exact Nat.le_refl _); rintro e w101 ⟨rfl, hb⟩; have n0_ := Aside0.mk (Kd.R_below (by (with_reducible repeat (first | apply Kd.R_alloc | apply Kd.R_drewN | apply Kd.R_drew)); exact HO_207002.out) hb); have n1_ := Aside0.mk (Kd.V_below (by (with_reducible repeat (first | apply Kd.V_alloc | apply Kd.V_drewN | apply Kd.V_drew)); exact HO223.out) hb); have n2_ := Aside0.mk (blk_below (bk_ BK197) hb); have n3_ := Aside0.mk (blk_below (bk_ BK198) hb); have n4_ := Aside0.mk (blk_below (bk_ BK206) hb); have n5_ := Aside0.mk (below_step (bl_ HB) hb); clear HO_207002; clear HO223; clear BK197; clear BK198; clear BK206; clear HB; have HO_207002 := n0_; have HO223 := n1_; have BK197 := n2_; have BK198 := n3_; have BK206 := n4_; have HB := n5_; clear n0_ n1_ n2_ n3_ n4_ n5_; (try clear hb); (try clear hb2); (try clear hk); (try clear hi)) | (go_at_call 12; (with_reducible refine (rillmeterlaw10_awake.calls kj15  t225 _ A95.out).mono ?_); rintro e w102 ⟨rfl, hb⟩; have n0_ := Aside0.mk (Kd.R_below (by (with_reducible repeat (first | apply Kd.R_alloc | apply Kd.R_drewN | apply Kd.R_drew)); exact HO_207002.out) hb); have n1_ := Aside0.mk (Kd.V_below (by (with_reducible repeat (first | apply Kd.V_alloc | apply Kd.V_drewN | apply Kd.V_drew)); exact HO223.out) hb); have n2_ := Aside0.mk (blk_below (bk_ BK197) hb); have n3_ := Aside0.mk (blk_below (bk_ BK198) hb); have n4_ := Aside0.mk (blk_below (bk_ BK206) hb); have n5_ := Aside0.mk (below_step (bl_ HB) hb); clear HO_207002; clear HO223; clear BK197; clear BK198; clear BK206; clear HB; have HO_207002 := n0_; have HO223 := n1_; have BK197 := n2_; have BK198 := n3_; have BK206 := n4_; have HB := n5_; clear n0_ n1_ n2_ n3_ n4_ n5_; (try clear hb); (try clear hb2); (try clear hk); (try clear hi))); try go_wp2_with (first | (go_at_call 11; (with_reducible refine (rillmeterlaw10_ref.calls t200 t201 (fun k_ => some k_ = (.slice Ao25 t202.length co25 : Value).ownBlock) _ _ t202 t219 t220 t221 _ ?side1 A91.out).mono ?_); (case side1 => exact Kd.R_V (Kd.R_tight rfl (Kd.R_types (Kd.R_types (Kd.R_types (HO_207002.out) BK197.out (by decide)) BK198.out (by decide)) BK206.out (by decide)))); rintro e w99 ⟨v222, rfl, ho0, hb⟩; have n0_ := Aside0.mk (Kd.R_below (by (with_reducible repeat (first | apply Kd.R_alloc | apply Kd.R_drewN | apply Kd.R_drew)); exact HO_207002.out) hb); have n1_ := Aside0.mk (Kd.V_lower (Kd.V_mono (ok' := fun k_ => k_ ≠ gb197 ∧ k_ ≠ gb198 ∧ k_ ≠ gb206) ho0 (fun k_ hk_ => ⟨Or.elim hk_ (fun hs_ => ((Kd.R_types (Kd.R_types (Kd.R_types (HO_207002.out) BK197.out (by decide)) BK198.out (by decide)) BK206.out (by decide)).1 k_ hs_.symm).1.1.2) (fun hn_ => (Kd.freshB (g := gb197) (o := .cells #[.int .u64 a0_0, .int .i64 a0_1, .slice A0_2 l0_2.length c0_2] 25 (0, 0)) (bk_ BK197) k_ hn_)), Or.elim hk_ (fun hs_ => ((Kd.R_types (Kd.R_types (Kd.R_types (HO_207002.out) BK197.out (by decide)) BK198.out (by decide)) BK206.out (by decide)).1 k_ hs_.symm).1.2) (fun hn_ => (Kd.freshB (g := gb198) (o := .cells #[.int .u64 a1_0, .int .i64 a1_1, .slice A1_2 l1_2.length c1_2] 25 (0, 0)) (bk_ BK198) k_ hn_)), Or.elim hk_ (fun hs_ => ((Kd.R_types (Kd.R_types (Kd.R_types (HO_207002.out) BK197.out (by decide)) BK198.out (by decide)) BK206.out (by decide)).1 k_ hs_.symm).2) (fun hn_ => (Kd.freshB (g := gb206) (o := .cells #[.int .u64 t200, .int .i64 t201, .slice Ao25 t202.length co25] 25 (0, 0)) (bk_ BK206) k_ hn_))⟩)) (below_size (bl_ HB))); have n2_ := Aside0.mk (blk_below (bk_ BK197) hb); have n3_ := Aside0.mk (blk_below (bk_ BK198) hb); have n4_ := Aside0.mk (blk_below (bk_ BK206) hb); have n5_ := Aside0.mk (below_step (bl_ HB) hb); clear HO_207002; clear BK197; clear BK198; clear BK206; clear HB; have HO_207002 := n0_; have HO223 := n1_; have BK197 := n2_; have BK198 := n3_; have BK206 := n4_; have HB := n5_; clear n0_ n1_ n2_ n3_ n4_ n5_; (try clear hb); (try clear hb2); (try clear hk); (try clear hi); (try clear ho0); obtain ⟨Ao100, co100, eo100⟩ := Kd.V_slice HO223.out; subst eo100) | (go_at_call 10; (refine (rillmeterref10_Equal.calls kj15 t219 t220 _ _ t221 0 0 _ _ ([] : List Bool) true _ ?side1 ?side2 ?side3 ?side4 A92.out).mono ?_); (case side1 => repeat (first | exact (Kd.V_reads' HO223.out).2.2 | (with_reducible refine Kd.C_alloc ?_ _) | (with_reducible refine Kd.C_drewN ?_ _) | (with_reducible refine Kd.C_drew ?_))); (case side2 => exact (Kd.V_reads' HO223.out).2.1); (case side3 => exact Kd.C_nil _ _); (case side4 => exact Nat.le_refl _); rintro e w101 ⟨rfl, hb⟩; have n0_ := Aside0.mk (Kd.R_below (by (with_reducible repeat (first | apply Kd.R_alloc | apply Kd.R_drewN | apply Kd.R_drew)); exact HO_207002.out) hb); have n1_ := Aside0.mk (Kd.V_below (by (with_reducible repeat (first | apply Kd.V_alloc | apply Kd.V_drewN | apply Kd.V_drew)); exact HO223.out) hb); have n2_ := Aside0.mk (blk_below (bk_ BK197) hb); have n3_ := Aside0.mk (blk_below (bk_ BK198) hb); have n4_ := Aside0.mk (blk_below (bk_ BK206) hb); have n5_ := Aside0.mk (below_step (bl_ HB) hb); clear HO_207002; clear HO223; clear BK197; clear BK198; clear BK206; clear HB; have HO_207002 := n0_; have HO223 := n1_; have BK197 := n2_; have BK198 := n3_; have BK206 := n4_; have HB := n5_; clear n0_ n1_ n2_ n3_ n4_ n5_; (try clear hb); (try clear hb2); (try clear hk); (try clear hi)) | (go_at_call 12; (with_reducible refine (rillmeterlaw10_awake.calls kj15  t225 _ A95.out).mono ?_); rintro e w102 ⟨rfl, hb⟩; have n0_ := Aside0.mk (Kd.R_below (by (with_reducible repeat (first | apply Kd.R_alloc | apply Kd.R_drewN | apply Kd.R_drew)); exact HO_207002.out) hb); have n1_ := Aside0.mk (Kd.V_below (by (with_reducible repeat (first | apply Kd.V_alloc | apply Kd.V_drewN | apply Kd.V_drew)); exact HO223.out) hb); have n2_ := Aside0.mk (blk_below (bk_ BK197) hb); have n3_ := Aside0.mk (blk_below (bk_ BK198) hb); have n4_ := Aside0.mk (blk_below (bk_ BK206) hb); have n5_ := Aside0.mk (below_step (bl_ HB) hb); clear HO_207002; clear HO223; clear BK197; clear BK198; clear BK206; clear HB; have HO_207002 := n0_; have HO223 := n1_; have BK197 := n2_; have BK198 := n3_; have BK206 := n4_; have HB := n5_; clear n0_ n1_ n2_ n3_ n4_ n5_; (try clear hb); (try clear hb2); (try clear hk); (try clear hi))))
                  go_ret
                  exact ⟨by first | rfl | (simp [errW_none, errW_some] <;> rfl) | (simp [*, errW_none, errW_some] <;> rfl), bl_ HB⟩
                · rw [if_neg c94] at H
                  have c94b0 : (t205 == 1) = false := beq_eq_false_iff_ne.mpr c94
                  have c94b1 : (t205 != 1) = true := bne_iff_ne.mpr c94
                  exact absurd ((Option.some.inj H).trans hrt.out) (by decide)
              · replace c93 := Bool.eq_false_iff.mpr c93
                subst c93
                have H1 : (some false) = some r := by rw [if_neg (show ¬ (false = true) by decide)] at H; exact H
                clear H
                have H := H1
                clear H1
                exact absurd ((Option.some.inj H).trans hrt.out) (by decide)
            · replace c90 := Bool.eq_false_iff.mpr c90
              subst c90
              have H1 : (if (t202.length : Int) = (l0_2.length : Int) then (if t200 = a0_0 then (rillmeterlaw10_BloomMerges.j2 kj15 t205 (t201 != a0_1) a0_0 a0_1 l0_2 a1_0 a1_1 l1_2 t200 t201 t202) else (rillmeterlaw10_BloomMerges.j2 kj15 t205 true a0_0 a0_1 l0_2 a1_0 a1_1 l1_2 t200 t201 t202)) else (rillmeterlaw10_BloomMerges.j2 kj15 t205 true a0_0 a0_1 l0_2 a1_0 a1_1 l1_2 t200 t201 t202)) = some r := by rw [if_neg (show ¬ (false = true) by decide)] at H; exact H
              clear H
              have H := H1
              clear H1
              have HC103 := Aside0.mk H
              clear H
              go_upto_region 6 with (fail)
              repeat (go_quiet (fail); go_upto_region 6 with (fail))
              go_cut [89] (fun v89 wc => ∃ (kq : Nat) (x89_102 : Bool), v89 = .bool x89_102 ∧ Aside0 (rillmeterlaw10_BloomMerges.j2 kq t205 x89_102 a0_0 a0_1 l0_2 a1_0 a1_1 l1_2 t200 t201 t202 = some r) ∧ Aside0 (kq ≤ kj15) ∧ Aside0 (Kd.R Kd.bool 4 wc w.heap.size (fun _ => True) (.slice Ao25 t202.length co25) t202) ∧ Aside0 (wc.heap[gb197]? = some (.cells #[.int .u64 a0_0, .int .i64 a0_1, (.slice A0_2 l0_2.length c0_2)] 25 (0, 0))) ∧ Aside0 (wc.heap[gb198]? = some (.cells #[.int .u64 a1_0, .int .i64 a1_1, (.slice A1_2 l1_2.length c1_2)] 25 (0, 0))) ∧ Aside0 (wc.heap[gb206]? = some (.cells #[.int .u64 t200, .int .i64 t201, (.slice Ao25 t202.length co25)] 25 (0, 0))) ∧ Aside0 (Below w.heap.size w wc))
              case first =>
                have H := HC103.out
                clear HC103
                by_cases c104 : (t202.length : Int) = (l0_2.length : Int)
                · rw [if_pos c104] at H
                  have c104b0 : ((t202.length : Int) == (l0_2.length : Int)) = true := beq_iff_eq.mpr c104
                  have c104b1 : ((t202.length : Int) != (l0_2.length : Int)) = false := bne_eq_false_iff_eq.mpr c104
                  have c104b2 : (t202.length == l0_2.length) = true := by first | simpa using c104 | (simp at c104 ⊢; omega)
                  clear c104
                  (first | rw [c104b0] | (simp only [i64_w, i32_w]; rw [c104b0]) | skip)
                  by_cases c105 : t200 = a0_0
                  · rw [if_pos c105] at H
                    have c105b0 : (t200 == a0_0) = true := beq_iff_eq.mpr c105
                    have c105b1 : (t200 != a0_0) = false := bne_eq_false_iff_eq.mpr c105
                    clear c105
                    have H' := Aside0.mk H
                    clear H
                    have hnb106 := NB206_197.out
                    have hnc106 := NB197_206.out
                    have hnb107 := NB206_198.out
                    have hnc107 := NB198_206.out
                    have hcz108_0 : wc.cell? ⟨gb206, 0, none⟩ = some (.int .u64 t200) := (blk_cell BK206.out 0).trans rfl
                    have hcz108_1 : wc.cell? ⟨gb206, 1, none⟩ = some (.int .i64 t201) := (blk_cell BK206.out 1).trans rfl
                    have hcz108_2 : wc.cell? ⟨gb206, 2, none⟩ = some (.slice Ao25 t202.length co25) := (blk_cell BK206.out 2).trans rfl
                    have hfz108_0 := blk_frozen BK206.out 0
                    have hfz108_1 := blk_frozen BK206.out 1
                    have hfz108_2 := blk_frozen BK206.out 2
                    have hnb109 := NB197_198.out
                    have hnc109 := NB198_197.out
                    have hcz110_0 : wc.cell? ⟨gb197, 0, none⟩ = some (.int .u64 a0_0) := (blk_cell BK197.out 0).trans rfl
                    have hcz110_1 : wc.cell? ⟨gb197, 1, none⟩ = some (.int .i64 a0_1) := (blk_cell BK197.out 1).trans rfl
                    have hcz110_2 : wc.cell? ⟨gb197, 2, none⟩ = some (.slice A0_2 l0_2.length c0_2) := (blk_cell BK197.out 2).trans rfl
                    have hfz110_0 := blk_frozen BK197.out 0
                    have hfz110_1 := blk_frozen BK197.out 1
                    have hfz110_2 := blk_frozen BK197.out 2
                    go_wp2
                    repeat (go_quiet (fail); try go_wp2)
                    go_meet
                    case rel => exact ⟨_, ((t201 != a0_1)), (by first | rfl | (simp; done) | (simp [*]; done)), H', ⟨by have := HJ2.out; have := HJ15.out; first | omega | exact Nat.le_refl _⟩, ⟨by (with_reducible repeat (first | apply Kd.R_alloc | apply Kd.R_drewN | apply Kd.R_drew)); exact HO_207002.out⟩, ⟨bk_ BK197⟩, ⟨bk_ BK198⟩, ⟨bk_ BK206⟩, ⟨bl_ HB⟩⟩
                  · rw [if_neg c105] at H
                    have c105b0 : (t200 == a0_0) = false := beq_eq_false_iff_ne.mpr c105
                    have c105b1 : (t200 != a0_0) = true := bne_iff_ne.mpr c105
                    have H' := Aside0.mk H
                    clear H
                    have hnb111 := NB206_197.out
                    have hnc111 := NB197_206.out
                    have hnb112 := NB206_198.out
                    have hnc112 := NB198_206.out
                    have hcz113_0 : wc.cell? ⟨gb206, 0, none⟩ = some (.int .u64 t200) := (blk_cell BK206.out 0).trans rfl
                    have hcz113_1 : wc.cell? ⟨gb206, 1, none⟩ = some (.int .i64 t201) := (blk_cell BK206.out 1).trans rfl
                    have hcz113_2 : wc.cell? ⟨gb206, 2, none⟩ = some (.slice Ao25 t202.length co25) := (blk_cell BK206.out 2).trans rfl
                    have hfz113_0 := blk_frozen BK206.out 0
                    have hfz113_1 := blk_frozen BK206.out 1
                    have hfz113_2 := blk_frozen BK206.out 2
                    have hnb114 := NB197_198.out
                    have hnc114 := NB198_197.out
                    have hcz115_0 : wc.cell? ⟨gb197, 0, none⟩ = some (.int .u64 a0_0) := (blk_cell BK197.out 0).trans rfl
                    have hcz115_1 : wc.cell? ⟨gb197, 1, none⟩ = some (.int .i64 a0_1) := (blk_cell BK197.out 1).trans rfl
                    have hcz115_2 : wc.cell? ⟨gb197, 2, none⟩ = some (.slice A0_2 l0_2.length c0_2) := (blk_cell BK197.out 2).trans rfl
                    have hfz115_0 := blk_frozen BK197.out 0
                    have hfz115_1 := blk_frozen BK197.out 1
                    have hfz115_2 := blk_frozen BK197.out 2
                    go_wp2
                    repeat (go_quiet (fail); try go_wp2)
                    go_meet
                    case rel => exact ⟨_, (true), (by first | rfl | (simp; done) | (simp [*]; done)), H', ⟨by have := HJ2.out; have := HJ15.out; first | omega | exact Nat.le_refl _⟩, ⟨by (with_reducible repeat (first | apply Kd.R_alloc | apply Kd.R_drewN | apply Kd.R_drew)); exact HO_207002.out⟩, ⟨bk_ BK197⟩, ⟨bk_ BK198⟩, ⟨bk_ BK206⟩, ⟨bl_ HB⟩⟩
                · rw [if_neg c104] at H
                  have c104b0 : ((t202.length : Int) == (l0_2.length : Int)) = false := beq_eq_false_iff_ne.mpr c104
                  have c104b1 : ((t202.length : Int) != (l0_2.length : Int)) = true := bne_iff_ne.mpr c104
                  have c104b2 : (t202.length == l0_2.length) = false := by first | simpa using c104 | (simp at c104 ⊢; omega)
                  (first | rw [c104b0] | (simp only [i64_w, i32_w]; rw [c104b0]) | skip)
                  have H' := Aside0.mk H
                  clear H
                  have hnb116 := NB206_197.out
                  have hnc116 := NB197_206.out
                  have hnb117 := NB206_198.out
                  have hnc117 := NB198_206.out
                  have hcz118_0 : wc.cell? ⟨gb206, 0, none⟩ = some (.int .u64 t200) := (blk_cell BK206.out 0).trans rfl
                  have hcz118_1 : wc.cell? ⟨gb206, 1, none⟩ = some (.int .i64 t201) := (blk_cell BK206.out 1).trans rfl
                  have hcz118_2 : wc.cell? ⟨gb206, 2, none⟩ = some (.slice Ao25 t202.length co25) := (blk_cell BK206.out 2).trans rfl
                  have hfz118_0 := blk_frozen BK206.out 0
                  have hfz118_1 := blk_frozen BK206.out 1
                  have hfz118_2 := blk_frozen BK206.out 2
                  have hnb119 := NB197_198.out
                  have hnc119 := NB198_197.out
                  have hcz120_0 : wc.cell? ⟨gb197, 0, none⟩ = some (.int .u64 a0_0) := (blk_cell BK197.out 0).trans rfl
                  have hcz120_1 : wc.cell? ⟨gb197, 1, none⟩ = some (.int .i64 a0_1) := (blk_cell BK197.out 1).trans rfl
                  have hcz120_2 : wc.cell? ⟨gb197, 2, none⟩ = some (.slice A0_2 l0_2.length c0_2) := (blk_cell BK197.out 2).trans rfl
                  have hfz120_0 := blk_frozen BK197.out 0
                  have hfz120_1 := blk_frozen BK197.out 1
                  have hfz120_2 := blk_frozen BK197.out 2
                  go_wp2
                  repeat (go_quiet (fail); try go_wp2)
                  go_meet
                  case rel => exact ⟨_, (true), (by first | rfl | (simp; done) | (simp [*]; done)), H', ⟨by have := HJ2.out; have := HJ15.out; first | omega | exact Nat.le_refl _⟩, ⟨by (with_reducible repeat (first | apply Kd.R_alloc | apply Kd.R_drewN | apply Kd.R_drew)); exact HO_207002.out⟩, ⟨bk_ BK197⟩, ⟨bk_ BK198⟩, ⟨bk_ BK206⟩, ⟨bl_ HB⟩⟩
              case rest =>
                clear HC103
                try clear c1
                try clear c2
                try clear p2
                try clear c3
                try clear c4
                try clear c5
                try clear c6
                try clear c6b0
                try clear c6b1
                try clear c7
                try clear c8
                try clear c9
                try clear c10
                try clear c11
                try clear c12
                try clear c17
                try clear c22
                try clear c23
                try clear c28
                try clear c31
                try clear c32
                try clear c32b0
                try clear c32b1
                try clear c33
                try clear c33b0
                try clear c33b1
                try clear c34
                try clear c35
                try clear c40
                try clear c47
                try clear c48
                try clear c53
                try clear c60
                try clear c61
                try clear c66
                try clear c73
                try clear c74
                try clear c79
                try clear c84
                try clear c85
                try clear c90
                try clear c93
                try clear c94
                try clear c94b0
                try clear c94b1
                try clear c96
                try clear c97
                try clear c104
                try clear c104b0
                try clear c104b1
                try clear c104b2
                try clear c105
                try clear c105b0
                try clear c105b1
                try clear c106
                try clear c107
                try clear c109
                try clear c111
                try clear c112
                try clear c114
                try clear c116
                try clear c117
                try clear c119
                try clear hcz108_0
                try clear hcz108_1
                try clear hcz108_2
                try clear hcz10_0
                try clear hcz10_1
                try clear hcz10_2
                try clear hcz110_0
                try clear hcz110_1
                try clear hcz110_2
                try clear hcz113_0
                try clear hcz113_1
                try clear hcz113_2
                try clear hcz115_0
                try clear hcz115_1
                try clear hcz115_2
                try clear hcz118_0
                try clear hcz118_1
                try clear hcz118_2
                try clear hcz11_0
                try clear hcz11_1
                try clear hcz11_2
                try clear hcz120_0
                try clear hcz120_1
                try clear hcz120_2
                try clear hcz18_0
                try clear hcz18_1
                try clear hcz18_2
                try clear hcz19_0
                try clear hcz19_1
                try clear hcz19_2
                try clear hcz24_0
                try clear hcz24_1
                try clear hcz24_2
                try clear hcz36_0
                try clear hcz36_1
                try clear hcz36_2
                try clear hcz41_0
                try clear hcz41_1
                try clear hcz41_2
                try clear hcz45_0
                try clear hcz45_1
                try clear hcz45_2
                try clear hcz46_0
                try clear hcz46_1
                try clear hcz46_2
                try clear hcz49_0
                try clear hcz49_1
                try clear hcz49_2
                try clear hcz54_0
                try clear hcz54_1
                try clear hcz54_2
                try clear hcz58_0
                try clear hcz58_1
                try clear hcz58_2
                try clear hcz59_0
                try clear hcz59_1
                try clear hcz59_2
                try clear hcz62_0
                try clear hcz62_1
                try clear hcz62_2
                try clear hcz67_0
                try clear hcz67_1
                try clear hcz67_2
                try clear hcz71_0
                try clear hcz71_1
                try clear hcz71_2
                try clear hcz72_0
                try clear hcz72_1
                try clear hcz72_2
                try clear hcz75_0
                try clear hcz75_1
                try clear hcz75_2
                try clear hcz80_0
                try clear hcz80_1
                try clear hcz80_2
                try clear hcz86_0
                try clear hcz86_1
                try clear hcz86_2
                try clear hcz8_0
                try clear hcz8_1
                try clear hcz8_2
                try clear hcz98_0
                try clear hcz98_1
                try clear hcz98_2
                try clear hfz108_0
                try clear hfz108_1
                try clear hfz108_2
                try clear hfz10_0
                try clear hfz10_1
                try clear hfz10_2
                try clear hfz110_0
                try clear hfz110_1
                try clear hfz110_2
                try clear hfz113_0
                try clear hfz113_1
                try clear hfz113_2
                try clear hfz115_0
                try clear hfz115_1
                try clear hfz115_2
                try clear hfz118_0
                try clear hfz118_1
                try clear hfz118_2
                try clear hfz11_0
                try clear hfz11_1
                try clear hfz11_2
                try clear hfz120_0
                try clear hfz120_1
                try clear hfz120_2
                try clear hfz18_0
                try clear hfz18_1
                try clear hfz18_2
                try clear hfz19_0
                try clear hfz19_1
                try clear hfz19_2
                try clear hfz24_0
                try clear hfz24_1
                try clear hfz24_2
                try clear hfz36_0
                try clear hfz36_1
                try clear hfz36_2
                try clear hfz41_0
                try clear hfz41_1
                try clear hfz41_2
                try clear hfz45_0
                try clear hfz45_1
                try clear hfz45_2
                try clear hfz46_0
                try clear hfz46_1
                try clear hfz46_2
                try clear hfz49_0
                try clear hfz49_1
                try clear hfz49_2
                try clear hfz54_0
                try clear hfz54_1
                try clear hfz54_2
                try clear hfz58_0
                try clear hfz58_1
                try clear hfz58_2
                try clear hfz59_0
                try clear hfz59_1
                try clear hfz59_2
                try clear hfz62_0
                try clear hfz62_1
                try clear hfz62_2
                try clear hfz67_0
                try clear hfz67_1
                try clear hfz67_2
                try clear hfz71_0
                try clear hfz71_1
                try clear hfz71_2
                try clear hfz72_0
                try clear hfz72_1
                try clear hfz72_2
                try clear hfz75_0
                try clear hfz75_1
                try clear hfz75_2
                try clear hfz80_0
                try clear hfz80_1
                try clear hfz80_2
                try clear hfz86_0
                try clear hfz86_1
                try clear hfz86_2
                try clear hfz8_0
                try clear hfz8_1
                try clear hfz8_2
                try clear hfz98_0
                try clear hfz98_1
                try clear hfz98_2
                try clear p2
                obtain ⟨kq, x89_102, rfl, HA, HJ102, HO_207002, BK197, BK198, BK206, HB⟩ := hcut
                cases kq with
                | zero => exact absurd HA.out (by simp [rillmeterlaw10_BloomMerges.j2])
                | succ kj102 =>
                  have H := HA.out
                  clear HA
                  simp only [rillmeterlaw10_BloomMerges.j2] at H
                  by_cases c121 : x89_102 = true
                  · subst c121
                    have H1 : (some false) = some r := by rw [if_pos rfl] at H; exact H
                    clear H
                    have H := H1
                    clear H1
                    exact absurd ((Option.some.inj H).trans hrt.out) (by decide)
                  · replace c121 := Bool.eq_false_iff.mpr c121
                    subst c121
                    have H1 : (rillmeterlaw10_BloomMerges.l0 kj102 t205 (t202.length : Int) 0 a0_0 a0_1 l0_2 a1_0 a1_1 l1_2 t200 t201 t202) = some r := by rw [if_neg (show ¬ (false = true) by decide)] at H; exact H
                    clear H
                    have H := H1
                    clear H1
                    have H' := Aside0.mk H
                    clear H
                    have hnb122 := NB206_197.out
                    have hnc122 := NB197_206.out
                    have hnb123 := NB206_198.out
                    have hnc123 := NB198_206.out
                    have hcz124_0 : wc.cell? ⟨gb206, 0, none⟩ = some (.int .u64 t200) := (blk_cell BK206.out 0).trans rfl
                    have hcz124_1 : wc.cell? ⟨gb206, 1, none⟩ = some (.int .i64 t201) := (blk_cell BK206.out 1).trans rfl
                    have hcz124_2 : wc.cell? ⟨gb206, 2, none⟩ = some (.slice Ao25 t202.length co25) := (blk_cell BK206.out 2).trans rfl
                    have hfz124_0 := blk_frozen BK206.out 0
                    have hfz124_1 := blk_frozen BK206.out 1
                    have hfz124_2 := blk_frozen BK206.out 2
                    go_wp2
                    repeat (go_quiet (fail); try go_wp2)
                    go_loopg [93] kj102 (fun kq v93 w' => ∃ (x93_4 : Int), v93 = .int .i64 x93_4 ∧ Aside0 (rillmeterlaw10_BloomMerges.l0 kq t205 (t202.length : Int) x93_4 a0_0 a0_1 l0_2 a1_0 a1_1 l1_2 t200 t201 t202 = some r) ∧ Aside0 (kq ≤ kj102) ∧ Aside0 (Kd.R Kd.bool 4 w' w.heap.size (fun _ => True) (.slice Ao25 t202.length co25) t202) ∧ Aside0 (w'.heap[gb197]? = some (.cells #[.int .u64 a0_0, .int .i64 a0_1, (.slice A0_2 l0_2.length c0_2)] 25 (0, 0))) ∧ Aside0 (w'.heap[gb198]? = some (.cells #[.int .u64 a1_0, .int .i64 a1_1, (.slice A1_2 l1_2.length c1_2)] 25 (0, 0))) ∧ Aside0 (w'.heap[gb206]? = some (.cells #[.int .u64 t200, .int .i64 t201, (.slice Ao25 t202.length co25)] 25 (0, 0))) ∧ Aside0 (Below w.heap.size w w'))
                    case atStart => exact ⟨(0), (by first | rfl | (simp; done) | (simp [*]; done)), H', ⟨Nat.le_refl _⟩, ⟨by (with_reducible repeat (first | apply Kd.R_alloc | apply Kd.R_drewN | apply Kd.R_drew)); exact HO_207002.out⟩, ⟨bk_ BK197⟩, ⟨bk_ BK198⟩, ⟨bk_ BK206⟩, ⟨bl_ HB⟩⟩
                    case round =>
                      clear H'
                      try clear c1
                      try clear c2
                      try clear p2
                      try clear c3
                      try clear c4
                      try clear c5
                      try clear c6
                      try clear c6b0
                      try clear c6b1
                      try clear c7
                      try clear c8
                      try clear c9
                      try clear c10
                      try clear c11
                      try clear c12
                      try clear c17
                      try clear c22
                      try clear c23
                      try clear c28
                      try clear c31
                      try clear c32
                      try clear c32b0
                      try clear c32b1
                      try clear c33
                      try clear c33b0
                      try clear c33b1
                      try clear c34
                      try clear c35
                      try clear c40
                      try clear c47
                      try clear c48
                      try clear c53
                      try clear c60
                      try clear c61
                      try clear c66
                      try clear c73
                      try clear c74
                      try clear c79
                      try clear c84
                      try clear c85
                      try clear c90
                      try clear c93
                      try clear c94
                      try clear c94b0
                      try clear c94b1
                      try clear c96
                      try clear c97
                      try clear c104
                      try clear c104b0
                      try clear c104b1
                      try clear c104b2
                      try clear c105
                      try clear c105b0
                      try clear c105b1
                      try clear c106
                      try clear c107
                      try clear c109
                      try clear c111
                      try clear c112
                      try clear c114
                      try clear c116
                      try clear c117
                      try clear c119
                      try clear c121
                      try clear c122
                      try clear c123
                      try clear hcz108_0
                      try clear hcz108_1
                      try clear hcz108_2
                      try clear hcz10_0
                      try clear hcz10_1
                      try clear hcz10_2
                      try clear hcz110_0
                      try clear hcz110_1
                      try clear hcz110_2
                      try clear hcz113_0
                      try clear hcz113_1
                      try clear hcz113_2
                      try clear hcz115_0
                      try clear hcz115_1
                      try clear hcz115_2
                      try clear hcz118_0
                      try clear hcz118_1
                      try clear hcz118_2
                      try clear hcz11_0
                      try clear hcz11_1
                      try clear hcz11_2
                      try clear hcz120_0
                      try clear hcz120_1
                      try clear hcz120_2
                      try clear hcz124_0
                      try clear hcz124_1
                      try clear hcz124_2
                      try clear hcz18_0
                      try clear hcz18_1
                      try clear hcz18_2
                      try clear hcz19_0
                      try clear hcz19_1
                      try clear hcz19_2
                      try clear hcz24_0
                      try clear hcz24_1
                      try clear hcz24_2
                      try clear hcz36_0
                      try clear hcz36_1
                      try clear hcz36_2
                      try clear hcz41_0
                      try clear hcz41_1
                      try clear hcz41_2
                      try clear hcz45_0
                      try clear hcz45_1
                      try clear hcz45_2
                      try clear hcz46_0
                      try clear hcz46_1
                      try clear hcz46_2
                      try clear hcz49_0
                      try clear hcz49_1
                      try clear hcz49_2
                      try clear hcz54_0
                      try clear hcz54_1
                      try clear hcz54_2
                      try clear hcz58_0
                      try clear hcz58_1
                      try clear hcz58_2
                      try clear hcz59_0
                      try clear hcz59_1
                      try clear hcz59_2
                      try clear hcz62_0
                      try clear hcz62_1
                      try clear hcz62_2
                      try clear hcz67_0
                      try clear hcz67_1
                      try clear hcz67_2
                      try clear hcz71_0
                      try clear hcz71_1
                      try clear hcz71_2
                      try clear hcz72_0
                      try clear hcz72_1
                      try clear hcz72_2
                      try clear hcz75_0
                      try clear hcz75_1
                      try clear hcz75_2
                      try clear hcz80_0
                      try clear hcz80_1
                      try clear hcz80_2
                      try clear hcz86_0
                      try clear hcz86_1
                      try clear hcz86_2
                      try clear hcz8_0
                      try clear hcz8_1
                      try clear hcz8_2
                      try clear hcz98_0
                      try clear hcz98_1
                      try clear hcz98_2
                      try clear hfz108_0
                      try clear hfz108_1
                      try clear hfz108_2
                      try clear hfz10_0
                      try clear hfz10_1
                      try clear hfz10_2
                      try clear hfz110_0
                      try clear hfz110_1
                      try clear hfz110_2
                      try clear hfz113_0
                      try clear hfz113_1
                      try clear hfz113_2
                      try clear hfz115_0
                      try clear hfz115_1
                      try clear hfz115_2
                      try clear hfz118_0
                      try clear hfz118_1
                      try clear hfz118_2
                      try clear hfz11_0
                      try clear hfz11_1
                      try clear hfz11_2
                      try clear hfz120_0
                      try clear hfz120_1
                      try clear hfz120_2
                      try clear hfz124_0
                      try clear hfz124_1
                      try clear hfz124_2
                      try clear hfz18_0
                      try clear hfz18_1
                      try clear hfz18_2
                      try clear hfz19_0
                      try clear hfz19_1
                      try clear hfz19_2
                      try clear hfz24_0
                      try clear hfz24_1
                      try clear hfz24_2
                      try clear hfz36_0
                      try clear hfz36_1
                      try clear hfz36_2
                      try clear hfz41_0
                      try clear hfz41_1
                      try clear hfz41_2
                      try clear hfz45_0
                      try clear hfz45_1
                      try clear hfz45_2
                      try clear hfz46_0
                      try clear hfz46_1
                      try clear hfz46_2
                      try clear hfz49_0
                      try clear hfz49_1
                      try clear hfz49_2
                      try clear hfz54_0
                      try clear hfz54_1
                      try clear hfz54_2
                      try clear hfz58_0
                      try clear hfz58_1
                      try clear hfz58_2
                      try clear hfz59_0
                      try clear hfz59_1
                      try clear hfz59_2
                      try clear hfz62_0
                      try clear hfz62_1
                      try clear hfz62_2
                      try clear hfz67_0
                      try clear hfz67_1
                      try clear hfz67_2
                      try clear hfz71_0
                      try clear hfz71_1
                      try clear hfz71_2
                      try clear hfz72_0
                      try clear hfz72_1
                      try clear hfz72_2
                      try clear hfz75_0
                      try clear hfz75_1
                      try clear hfz75_2
                      try clear hfz80_0
                      try clear hfz80_1
                      try clear hfz80_2
                      try clear hfz86_0
                      try clear hfz86_1
                      try clear hfz86_2
                      try clear hfz8_0
                      try clear hfz8_1
                      try clear hfz8_2
                      try clear hfz98_0
                      try clear hfz98_1
                      try clear hfz98_2
                      try clear p2
                      obtain ⟨x93_4, rfl, HA, HK4, HO_207002, BK197, BK198, BK206, HB⟩ := hrel
                      cases gk with
                      | zero => exact absurd HA.out (by simp [rillmeterlaw10_BloomMerges.l0])
                      | succ k4 =>
                        have H := HA.out
                        clear HA
                        simp only [rillmeterlaw10_BloomMerges.l0] at H
                        by_cases c125 : x93_4 < (t202.length : Int)
                        · rw [if_pos c125] at H
                          have c125b0 : decide (x93_4 < (t202.length : Int)) = true := decide_eq_true c125
                          clear c125
                          by_cases c126 : 0 ≤ x93_4
                          · rw [if_pos c126] at H
                            have c126b0 : decide (0 ≤ x93_4) = true := decide_eq_true c126
                            clear c126
                            by_cases c127 : x93_4 < (t202.length : Int)
                            · rw [if_pos c127] at H
                              have c127b0 : decide (x93_4 < (t202.length : Int)) = true := decide_eq_true c127
                              clear c127
                              by_cases c128 : x93_4 < (l0_2.length : Int)
                              · rw [if_pos c128] at H
                                have c128b0 : decide (x93_4 < (l0_2.length : Int)) = true := decide_eq_true c128
                                clear c128
                                obtain ⟨bq129, hbq129⟩ : ∃ b_ : Bool, b_ = (rdOf false l0_2 x93_4) := ⟨_, rfl⟩
                                replace H : (if bq129 = true then (if ((rdOf false t202 x93_4) != true) = true then (some false) else (rillmeterlaw10_BloomMerges.l0 k4 t205 (t202.length : Int) (wrap64 (x93_4 + 1)) a0_0 a0_1 l0_2 a1_0 a1_1 l1_2 t200 t201 t202)) else (if x93_4 < (l1_2.length : Int) then (if ((rdOf false t202 x93_4) != (rdOf false l1_2 x93_4)) = true then (some false) else (rillmeterlaw10_BloomMerges.l0 k4 t205 (t202.length : Int) (wrap64 (x93_4 + 1)) a0_0 a0_1 l0_2 a1_0 a1_1 l1_2 t200 t201 t202)) else (none))) = some r := by rw [← hbq129] at H; exact H
                                have Nbq129 := Aside0.mk hbq129
                                clear hbq129
                                by_cases c130 : bq129 = true
                                · subst c130
                                  have H1 : (if ((rdOf false t202 x93_4) != true) = true then (some false) else (rillmeterlaw10_BloomMerges.l0 k4 t205 (t202.length : Int) (wrap64 (x93_4 + 1)) a0_0 a0_1 l0_2 a1_0 a1_1 l1_2 t200 t201 t202)) = some r := by rw [if_pos rfl] at H; exact H
                                  clear H
                                  have H := H1
                                  clear H1
                                  by_cases c131 : ((rdOf false t202 x93_4) != true) = true
                                  · rw [if_pos c131] at H
                                    have c131b0 : ((rdOf false t202 x93_4) != true) = true := c131
                                    (try (have c131b1 : decide ((rdOf false t202 x93_4) = true) = false := by simpa using c131))
                                    (try (have c131b2 : ((rdOf false t202 x93_4) == true) = false := by simpa using c131))
                                    (try (have c131b3 : ¬ ((rdOf false t202 x93_4) = true) := by simpa using c131))
                                    clear c131
                                    exact absurd ((Option.some.inj H).trans hrt.out) (by decide)
                                  · rw [if_neg c131] at H
                                    have c131b0 : ((rdOf false t202 x93_4) != true) = false := by simpa using c131
                                    (try (have c131b1 : decide ((rdOf false t202 x93_4) = true) = true := by simpa using c131))
                                    (try (have c131b2 : ((rdOf false t202 x93_4) == true) = true := by simpa using c131))
                                    clear c131
                                    have H' := Aside0.mk H
                                    clear H
                                    have hnb132 := NB206_197.out
                                    have hnc132 := NB197_206.out
                                    have hnb133 := NB206_198.out
                                    have hnc133 := NB198_206.out
                                    have hcz134_0 : wr.cell? ⟨gb206, 0, none⟩ = some (.int .u64 t200) := (blk_cell BK206.out 0).trans rfl
                                    have hcz134_1 : wr.cell? ⟨gb206, 1, none⟩ = some (.int .i64 t201) := (blk_cell BK206.out 1).trans rfl
                                    have hcz134_2 : wr.cell? ⟨gb206, 2, none⟩ = some (.slice Ao25 t202.length co25) := (blk_cell BK206.out 2).trans rfl
                                    have hfz134_0 := blk_frozen BK206.out 0
                                    have hfz134_1 := blk_frozen BK206.out 1
                                    have hfz134_2 := blk_frozen BK206.out 2
                                    have p226 : 0 ≤ (x93_4 : Int) := of_decide_eq_true (by first | (with_reducible assumption) | assumption)
                                    have q226 : x93_4 < (t202.length : Int) := of_decide_eq_true (by first | (with_reducible assumption) | assumption)
                                    obtain ⟨ad226, e226, hx226_0⟩ := Kd.at_bool (Kd.R_reads' HO_207002.out).2.2 x93_4 p226 q226
                                    (try rw [← Nbq129.out] at hx226_0)
                                    cases e226
                                    replace p226 := eq_true p226
                                    replace q226 := eq_true q226
                                    have hnb135 := NB197_198.out
                                    have hnc135 := NB198_197.out
                                    have hcz136_0 : wr.cell? ⟨gb197, 0, none⟩ = some (.int .u64 a0_0) := (blk_cell BK197.out 0).trans rfl
                                    have hcz136_1 : wr.cell? ⟨gb197, 1, none⟩ = some (.int .i64 a0_1) := (blk_cell BK197.out 1).trans rfl
                                    have hcz136_2 : wr.cell? ⟨gb197, 2, none⟩ = some (.slice A0_2 l0_2.length c0_2) := (blk_cell BK197.out 2).trans rfl
                                    have hfz136_0 := blk_frozen BK197.out 0
                                    have hfz136_1 := blk_frozen BK197.out 1
                                    have hfz136_2 := blk_frozen BK197.out 2
                                    have p227 : 0 ≤ (x93_4 : Int) := of_decide_eq_true (by first | (with_reducible assumption) | assumption)
                                    have q227 : x93_4 < (l0_2.length : Int) := of_decide_eq_true (by first | (with_reducible assumption) | assumption)
                                    obtain ⟨ad227, e227, hx227_0⟩ := Kd.at_bool HR0_2.out x93_4 p227 q227
                                    (try rw [← Nbq129.out] at hx227_0)
                                    cases e227
                                    replace hx227_0 := (HB.out.cell (World.block_lt_of_cell? w _ hx227_0)).trans hx227_0
                                    replace p227 := eq_true p227
                                    replace q227 := eq_true q227
                                    go_wp2
                                    repeat (go_quiet (fail); try go_wp2)
                                    go_roundg k4
                                    case measure => have := HJ2.out; have := HJ15.out; have := HJ102.out; have := HK4.out; omega
                                    case rel => exact ⟨(wrap64 (x93_4 + 1)), (by first | rfl | (simp; done) | (simp [*]; done)), H', ⟨by have := HJ2.out; have := HJ15.out; have := HJ102.out; have := HK4.out; omega⟩, ⟨by (with_reducible repeat (first | apply Kd.R_alloc | apply Kd.R_drewN | apply Kd.R_drew)); exact HO_207002.out⟩, ⟨bk_ BK197⟩, ⟨bk_ BK198⟩, ⟨bk_ BK206⟩, ⟨bl_ HB⟩⟩
                                · replace c130 := Bool.eq_false_iff.mpr c130
                                  subst c130
                                  have H1 : (if x93_4 < (l1_2.length : Int) then (if ((rdOf false t202 x93_4) != (rdOf false l1_2 x93_4)) = true then (some false) else (rillmeterlaw10_BloomMerges.l0 k4 t205 (t202.length : Int) (wrap64 (x93_4 + 1)) a0_0 a0_1 l0_2 a1_0 a1_1 l1_2 t200 t201 t202)) else (none)) = some r := by rw [if_neg (show ¬ (false = true) by decide)] at H; exact H
                                  clear H
                                  have H := H1
                                  clear H1
                                  by_cases c137 : x93_4 < (l1_2.length : Int)
                                  · rw [if_pos c137] at H
                                    have c137b0 : decide (x93_4 < (l1_2.length : Int)) = true := decide_eq_true c137
                                    clear c137
                                    by_cases c138 : ((rdOf false t202 x93_4) != (rdOf false l1_2 x93_4)) = true
                                    · rw [if_pos c138] at H
                                      have c138b0 : ((rdOf false t202 x93_4) != (rdOf false l1_2 x93_4)) = true := c138
                                      (try (have c138b1 : decide ((rdOf false t202 x93_4) = (rdOf false l1_2 x93_4)) = false := by simpa using c138))
                                      (try (have c138b2 : ((rdOf false t202 x93_4) == (rdOf false l1_2 x93_4)) = false := by simpa using c138))
                                      (try (have c138b3 : ¬ ((rdOf false t202 x93_4) = (rdOf false l1_2 x93_4)) := by simpa using c138))
                                      clear c138
                                      exact absurd ((Option.some.inj H).trans hrt.out) (by decide)
                                    · rw [if_neg c138] at H
                                      have c138b0 : ((rdOf false t202 x93_4) != (rdOf false l1_2 x93_4)) = false := by simpa using c138
                                      (try (have c138b1 : decide ((rdOf false t202 x93_4) = (rdOf false l1_2 x93_4)) = true := by simpa using c138))
                                      (try (have c138b2 : ((rdOf false t202 x93_4) == (rdOf false l1_2 x93_4)) = true := by simpa using c138))
                                      clear c138
                                      have H' := Aside0.mk H
                                      clear H
                                      have hnb139 := NB206_197.out
                                      have hnc139 := NB197_206.out
                                      have hnb140 := NB206_198.out
                                      have hnc140 := NB198_206.out
                                      have hcz141_0 : wr.cell? ⟨gb206, 0, none⟩ = some (.int .u64 t200) := (blk_cell BK206.out 0).trans rfl
                                      have hcz141_1 : wr.cell? ⟨gb206, 1, none⟩ = some (.int .i64 t201) := (blk_cell BK206.out 1).trans rfl
                                      have hcz141_2 : wr.cell? ⟨gb206, 2, none⟩ = some (.slice Ao25 t202.length co25) := (blk_cell BK206.out 2).trans rfl
                                      have hfz141_0 := blk_frozen BK206.out 0
                                      have hfz141_1 := blk_frozen BK206.out 1
                                      have hfz141_2 := blk_frozen BK206.out 2
                                      have p226 : 0 ≤ (x93_4 : Int) := of_decide_eq_true (by first | (with_reducible assumption) | assumption)
                                      have q226 : x93_4 < (t202.length : Int) := of_decide_eq_true (by first | (with_reducible assumption) | assumption)
                                      obtain ⟨ad226, e226, hx226_0⟩ := Kd.at_bool (Kd.R_reads' HO_207002.out).2.2 x93_4 p226 q226
                                      (try rw [← Nbq129.out] at hx226_0)
                                      cases e226
                                      replace p226 := eq_true p226
                                      replace q226 := eq_true q226
                                      have hnb142 := NB197_198.out
                                      have hnc142 := NB198_197.out
                                      have hcz143_0 : wr.cell? ⟨gb197, 0, none⟩ = some (.int .u64 a0_0) := (blk_cell BK197.out 0).trans rfl
                                      have hcz143_1 : wr.cell? ⟨gb197, 1, none⟩ = some (.int .i64 a0_1) := (blk_cell BK197.out 1).trans rfl
                                      have hcz143_2 : wr.cell? ⟨gb197, 2, none⟩ = some (.slice A0_2 l0_2.length c0_2) := (blk_cell BK197.out 2).trans rfl
                                      have hfz143_0 := blk_frozen BK197.out 0
                                      have hfz143_1 := blk_frozen BK197.out 1
                                      have hfz143_2 := blk_frozen BK197.out 2
                                      have p227 : 0 ≤ (x93_4 : Int) := of_decide_eq_true (by first | (with_reducible assumption) | assumption)
                                      have q227 : x93_4 < (l0_2.length : Int) := of_decide_eq_true (by first | (with_reducible assumption) | assumption)
                                      obtain ⟨ad227, e227, hx227_0⟩ := Kd.at_bool HR0_2.out x93_4 p227 q227
                                      (try rw [← Nbq129.out] at hx227_0)
                                      cases e227
                                      replace hx227_0 := (HB.out.cell (World.block_lt_of_cell? w _ hx227_0)).trans hx227_0
                                      replace p227 := eq_true p227
                                      replace q227 := eq_true q227
                                      have hcz144_0 : wr.cell? ⟨gb198, 0, none⟩ = some (.int .u64 a1_0) := (blk_cell BK198.out 0).trans rfl
                                      have hcz144_1 : wr.cell? ⟨gb198, 1, none⟩ = some (.int .i64 a1_1) := (blk_cell BK198.out 1).trans rfl
                                      have hcz144_2 : wr.cell? ⟨gb198, 2, none⟩ = some (.slice A1_2 l1_2.length c1_2) := (blk_cell BK198.out 2).trans rfl
                                      have hfz144_0 := blk_frozen BK198.out 0
                                      have hfz144_1 := blk_frozen BK198.out 1
                                      have hfz144_2 := blk_frozen BK198.out 2
                                      have p228 : 0 ≤ (x93_4 : Int) := of_decide_eq_true (by first | (with_reducible assumption) | assumption)
                                      have q228 : x93_4 < (l1_2.length : Int) := of_decide_eq_true (by first | (with_reducible assumption) | assumption)
                                      obtain ⟨ad228, e228, hx228_0⟩ := Kd.at_bool HR1_2.out x93_4 p228 q228
                                      (try rw [← Nbq129.out] at hx228_0)
                                      cases e228
                                      replace hx228_0 := (HB.out.cell (World.block_lt_of_cell? w _ hx228_0)).trans hx228_0
                                      replace p228 := eq_true p228
                                      replace q228 := eq_true q228
                                      go_wp2
                                      repeat (go_quiet (fail); try go_wp2)
                                      go_roundg k4
                                      case measure => have := HJ2.out; have := HJ15.out; have := HJ102.out; have := HK4.out; omega
                                      case rel => exact ⟨(wrap64 (x93_4 + 1)), (by first | rfl | (simp; done) | (simp [*]; done)), H', ⟨by have := HJ2.out; have := HJ15.out; have := HJ102.out; have := HK4.out; omega⟩, ⟨by (with_reducible repeat (first | apply Kd.R_alloc | apply Kd.R_drewN | apply Kd.R_drew)); exact HO_207002.out⟩, ⟨bk_ BK197⟩, ⟨bk_ BK198⟩, ⟨bk_ BK206⟩, ⟨bl_ HB⟩⟩
                                  · rw [if_neg c137] at H
                                    exact absurd H (by simp)
                              · rw [if_neg c128] at H
                                exact absurd H (by simp)
                            · rw [if_neg c127] at H
                              exact absurd H (by simp)
                          · rw [if_neg c126] at H
                            exact absurd H (by simp)
                        · rw [if_neg c125] at H
                          have c125b0 : decide (x93_4 < (t202.length : Int)) = false := decide_eq_false c125
                          clear c125
                          by_cases c145 : t205 = 0
                          · rw [if_pos c145] at H
                            have c145b0 : (t205 == 0) = true := beq_iff_eq.mpr c145
                            have c145b1 : (t205 != 0) = false := bne_eq_false_iff_eq.mpr c145
                            clear c145
                            replace H := Option.bind_eq_some_iff.mp H
                            obtain ⟨t229, A1460, H⟩ := H
                            replace H : (some t229) = some r := H
                            have A146 := Aside0.mk A1460
                            clear A1460
                            obtain rfl := Option.some.inj H
                            go_wp2_with (first | (go_at_call 12; (with_reducible refine (rillmeterlaw10_awake.calls k4  t229 _ A146.out).mono ?_); rintro e w147 ⟨rfl, hb⟩; have n0_ := Aside0.mk (Kd.R_below (by (with_reducible repeat (first | apply Kd.R_alloc | apply Kd.R_drewN | apply Kd.R_drew)); exact HO_207002.out) hb); have n1_ := Aside0.mk (blk_below (bk_ BK197) hb); have n2_ := Aside0.mk (blk_below (bk_ BK198) hb); have n3_ := Aside0.mk (blk_below (bk_ BK206) hb); have n4_ := Aside0.mk (below_step (bl_ HB) hb); clear HO_207002; clear BK197; clear BK198; clear BK206; clear HB; have HO_207002 := n0_; have BK197 := n1_; have BK198 := n2_; have BK206 := n3_; have HB := n4_; clear n0_ n1_ n2_ n3_ n4_; (try clear hb); (try clear hb2); (try clear hk); (try clear hi)))
                            repeat (go_quiet (first | (go_at_call 12; (with_reducible refine (rillmeterlaw10_awake.calls k4  t229 _ A146.out).mono ?_); rintro e w147 ⟨rfl, hb⟩; have n0_ := Aside0.mk (Kd.R_below (by (with_reducible repeat (first | apply Kd.R_alloc | apply Kd.R_drewN | apply Kd.R_drew)); exact HO_207002.out) hb); have n1_ := Aside0.mk (blk_below (bk_ BK197) hb); have n2_ := Aside0.mk (blk_below (bk_ BK198) hb); have n3_ := Aside0.mk (blk_below (bk_ BK206) hb); have n4_ := Aside0.mk (below_step (bl_ HB) hb); clear HO_207002; clear BK197; clear BK198; clear BK206; clear HB; have HO_207002 := n0_; have BK197 := n1_; have BK198 := n2_; have BK206 := n3_; have HB := n4_; clear n0_ n1_ n2_ n3_ n4_; (try clear hb); (try clear hb2); (try clear hk); (try clear hi))); try go_wp2_with (first | (go_at_call 12; (with_reducible refine (rillmeterlaw10_awake.calls k4  t229 _ A146.out).mono ?_); rintro e w147 ⟨rfl, hb⟩; have n0_ := Aside0.mk (Kd.R_below (by (with_reducible repeat (first | apply Kd.R_alloc | apply Kd.R_drewN | apply Kd.R_drew)); exact HO_207002.out) hb); have n1_ := Aside0.mk (blk_below (bk_ BK197) hb); have n2_ := Aside0.mk (blk_below (bk_ BK198) hb); have n3_ := Aside0.mk (blk_below (bk_ BK206) hb); have n4_ := Aside0.mk (below_step (bl_ HB) hb); clear HO_207002; clear BK197; clear BK198; clear BK206; clear HB; have HO_207002 := n0_; have BK197 := n1_; have BK198 := n2_; have BK206 := n3_; have HB := n4_; clear n0_ n1_ n2_ n3_ n4_; (try clear hb); (try clear hb2); (try clear hk); (try clear hi))))
                            go_ret
                            exact ⟨by first | rfl | (simp [errW_none, errW_some] <;> rfl) | (simp [*, errW_none, errW_some] <;> rfl), bl_ HB⟩
                          · rw [if_neg c145] at H
                            have c145b0 : (t205 == 0) = false := beq_eq_false_iff_ne.mpr c145
                            have c145b1 : (t205 != 0) = true := bne_iff_ne.mpr c145
                            exact absurd ((Option.some.inj H).trans hrt.out) (by decide)

end Go.Proofs.Ytmlcafnnhpfpaaa.PBloomMerges
