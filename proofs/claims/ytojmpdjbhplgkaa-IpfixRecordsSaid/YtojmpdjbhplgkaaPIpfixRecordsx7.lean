/- The functions that a law uses, each as a plain function, with the proof that a call of the Go function comes to its answer. Condition of each: the arguments read as the data that it names, and the plain function has an answer. Written by a program of this session (standin.py). -/
import Derived.Test.YtojmpdjbhplgkaaPIpfixRecordsx0
import Derived.Test.YtojmpdjbhplgkaaPIpfixRecordsx6
import Derived.Test.YtojmpdjbhplgkaaShort
import Derived.Lib.SliceRun
import Derived.Test.YtojmpdjbhplgkaaPressMore
namespace Go.Proofs.Ytojmpdjbhplgkaa.PIpfixRecords
open Go.RowKit Go.Proofs.YtojmpdjbhplgkaaW.PrintWords Go.Proofs.YtojmpdjbhplgkaaW.PrintLast Go.Proofs.YtojmpdjbhplgkaaW.PrintMore Go.Proofs.Ytojmpdjbhplgkaa.Short Go.Proofs.Ytojmpdjbhplgkaa.Press Go.Proofs.Ytojmpdjbhplgkaa.PressMore
attribute [local go_sem] max2_int min2_int max_two min_two max_three min_three max_four min_four   -- for this text's walks alone
set_option linter.unusedVariables false
set_option linter.unusedSimpArgs false

/-! ### rillmeterref22_Record: function 17 -/
mutual
def rillmeterref22_Record.l0 : Nat → List ByteArray → ByteArray → Int → Int → List (S88) → Option (ByteArray × Bool)
  | 0, _, _, _, _, _ => none
  | k + 1, x1, x6, x7, x304000, x304001 => if x7 < (x1.length : Int) then (if 0 ≤ x7 then (if ((rdOf ByteArray.empty x1 x7).size : Int) > 65535 then (rillmeterref22_Record.j1 k x1 x6 x7 ((rdOf ByteArray.empty x1 x7).size : Int) true x304000 x304001) else (if x7 < (x304001.length : Int) then (if ((rd_T88 x304001 x7).f1) = 65535 then (rillmeterref22_Record.j1 k x1 x6 x7 ((rdOf ByteArray.empty x1 x7).size : Int) false x304000 x304001) else (rillmeterref22_Record.j1 k x1 x6 x7 ((rdOf ByteArray.empty x1 x7).size : Int) (((rd_T88 x304001 x7).f1) != ((rdOf ByteArray.empty x1 x7).size : Int)) x304000 x304001)) else (none))) else (none)) else (some (x6, true))
def rillmeterref22_Record.j1 : Nat → List ByteArray → ByteArray → Int → Int → Bool → Int → List (S88) → Option (ByteArray × Bool)
  | 0, _, _, _, _, _, _, _ => none
  | k + 1, x1, x6, x7, x8, x46, x304000, x304001 => if x46 = true then (some ((⟨#[]⟩ : ByteArray), false)) else (if 0 ≤ x7 then (if x7 < (x304001.length : Int) then (if ((rd_T88 x304001 x7).f1) = 65535 then (rillmeterref22_Record.j2 k x1 x6 x7 x8 (decide (x8 < 255)) x304000 x304001) else (rillmeterref22_Record.j2 k x1 x6 x7 x8 false x304000 x304001)) else (none)) else (none))
def rillmeterref22_Record.j2 : Nat → List ByteArray → ByteArray → Int → Int → Bool → Int → List (S88) → Option (ByteArray × Bool)
  | 0, _, _, _, _, _, _, _ => none
  | k + 1, x1, x6, x7, x8, x57, x304000, x304001 => if x57 = true then ((rillmeterref22_num.f k x8 1).bind fun t308 => (if x6.size + t308.size ≤ 9223372036854775807 then (if 0 ≤ x7 then (if x7 < (x1.length : Int) then (if (x6 ++ t308).size + (rdOf ByteArray.empty x1 x7).size ≤ 9223372036854775807 then (rillmeterref22_Record.l0 k x1 ((x6 ++ t308) ++ (rdOf ByteArray.empty x1 x7)) (wrap64 (x7 + 1)) x304000 x304001) else (none)) else (none)) else (none)) else (none))) else (if 0 ≤ x7 then (if x7 < (x304001.length : Int) then (if ((rd_T88 x304001 x7).f1) = 65535 then ((rillmeterref22_num.f k 255 1).bind fun t311 => (if x6.size + t311.size ≤ 9223372036854775807 then ((rillmeterref22_num.f k x8 2).bind fun t312 => (if (x6 ++ t311).size + t312.size ≤ 9223372036854775807 then (if x7 < (x1.length : Int) then (if ((x6 ++ t311) ++ t312).size + (rdOf ByteArray.empty x1 x7).size ≤ 9223372036854775807 then (rillmeterref22_Record.l0 k x1 (((x6 ++ t311) ++ t312) ++ (rdOf ByteArray.empty x1 x7)) (wrap64 (x7 + 1)) x304000 x304001) else (none)) else (none)) else (none))) else (none))) else (if x7 < (x1.length : Int) then (if x6.size + (rdOf ByteArray.empty x1 x7).size ≤ 9223372036854775807 then (rillmeterref22_Record.l0 k x1 (x6 ++ (rdOf ByteArray.empty x1 x7)) (wrap64 (x7 + 1)) x304000 x304001) else (none)) else (none))) else (none)) else (none))
end
def rillmeterref22_Record.f (k : Nat) (a0_0 : Int) (l0_1 : List (S88)) (l1 : List ByteArray) : Option (ByteArray × Bool) := if (l1.length : Int) = (l0_1.length : Int) then (rillmeterref22_Record.l0 k l1 (⟨#[]⟩ : ByteArray) 0 a0_0 l0_1) else (some ((⟨#[]⟩ : ByteArray), false))
theorem rillmeterref22_Record.mono_l : ∀ k, (∀ y0 y1 y2 y3 y4, LeO (rillmeterref22_Record.l0 k y0 y1 y2 y3 y4) (rillmeterref22_Record.l0 (k + 1) y0 y1 y2 y3 y4)) ∧ (∀ y0 y1 y2 y3 y4 y5 y6, LeO (rillmeterref22_Record.j1 k y0 y1 y2 y3 y4 y5 y6) (rillmeterref22_Record.j1 (k + 1) y0 y1 y2 y3 y4 y5 y6)) ∧ (∀ y0 y1 y2 y3 y4 y5 y6, LeO (rillmeterref22_Record.j2 k y0 y1 y2 y3 y4 y5 y6) (rillmeterref22_Record.j2 (k + 1) y0 y1 y2 y3 y4 y5 y6))
  | 0 => ⟨fun _ _ _ _ _ r h => by simp [rillmeterref22_Record.l0] at h, fun _ _ _ _ _ _ _ r h => by simp [rillmeterref22_Record.j1] at h, fun _ _ _ _ _ _ _ r h => by simp [rillmeterref22_Record.j2] at h⟩
  | k + 1 => by
    obtain ⟨ih0, ih1, ih2⟩ := rillmeterref22_Record.mono_l k
    refine ⟨?_, ?_, ?_⟩
    · intro y0 y1 y2 y3 y4
      unfold rillmeterref22_Record.l0
      repeat' first
      | (with_reducible exact ih0 _ _ _ _ _)
      | (with_reducible exact ih1 _ _ _ _ _ _ _)
      | (with_reducible exact ih2 _ _ _ _ _ _ _)
      | (with_reducible exact rillmeterref22_num.mono _ _ _)
      | (with_reducible exact LeO.refl _)
      | (with_reducible exact LeO.none _)
      | (with_reducible refine LeO.ite ?_ ?_)
      | (with_reducible refine LeO.bind ?_ (fun _ => ?_))
      | exact ih0 _ _ _ _ _
      | exact ih1 _ _ _ _ _ _ _
      | exact ih2 _ _ _ _ _ _ _
      | exact rillmeterref22_num.mono _ _ _
      | exact LeO.none _
      | refine LeO.ite ?_ ?_
      | refine LeO.bind ?_ (fun _ => ?_)
    · intro y0 y1 y2 y3 y4 y5 y6
      unfold rillmeterref22_Record.j1
      repeat' first
      | (with_reducible exact ih0 _ _ _ _ _)
      | (with_reducible exact ih1 _ _ _ _ _ _ _)
      | (with_reducible exact ih2 _ _ _ _ _ _ _)
      | (with_reducible exact rillmeterref22_num.mono _ _ _)
      | (with_reducible exact LeO.refl _)
      | (with_reducible exact LeO.none _)
      | (with_reducible refine LeO.ite ?_ ?_)
      | (with_reducible refine LeO.bind ?_ (fun _ => ?_))
      | exact ih0 _ _ _ _ _
      | exact ih1 _ _ _ _ _ _ _
      | exact ih2 _ _ _ _ _ _ _
      | exact rillmeterref22_num.mono _ _ _
      | exact LeO.none _
      | refine LeO.ite ?_ ?_
      | refine LeO.bind ?_ (fun _ => ?_)
    · intro y0 y1 y2 y3 y4 y5 y6
      unfold rillmeterref22_Record.j2
      repeat' first
      | (with_reducible exact ih0 _ _ _ _ _)
      | (with_reducible exact ih1 _ _ _ _ _ _ _)
      | (with_reducible exact ih2 _ _ _ _ _ _ _)
      | (with_reducible exact rillmeterref22_num.mono _ _ _)
      | (with_reducible exact LeO.refl _)
      | (with_reducible exact LeO.none _)
      | (with_reducible refine LeO.ite ?_ ?_)
      | (with_reducible refine LeO.bind ?_ (fun _ => ?_))
      | exact ih0 _ _ _ _ _
      | exact ih1 _ _ _ _ _ _ _
      | exact ih2 _ _ _ _ _ _ _
      | exact rillmeterref22_num.mono _ _ _
      | exact LeO.none _
      | refine LeO.ite ?_ ?_
      | refine LeO.bind ?_ (fun _ => ?_)
theorem rillmeterref22_Record.mono : ∀ a0 a1 a2 k, LeO (rillmeterref22_Record.f k a0 a1 a2) (rillmeterref22_Record.f (k + 1) a0 a1 a2) := by
  intro a0 a1 a2 k
  obtain ⟨ih0, ih1, ih2⟩ := rillmeterref22_Record.mono_l k
  unfold rillmeterref22_Record.f
  repeat' first
      | (with_reducible exact ih0 _ _ _ _ _)
      | (with_reducible exact ih1 _ _ _ _ _ _ _)
      | (with_reducible exact ih2 _ _ _ _ _ _ _)
      | (with_reducible exact rillmeterref22_num.mono _ _ _)
      | (with_reducible exact LeO.refl _)
      | (with_reducible exact LeO.none _)
      | (with_reducible refine LeO.ite ?_ ?_)
      | (with_reducible refine LeO.bind ?_ (fun _ => ?_))
      | exact ih0 _ _ _ _ _
      | exact ih1 _ _ _ _ _ _ _
      | exact ih2 _ _ _ _ _ _ _
      | exact rillmeterref22_num.mono _ _ _
      | exact LeO.none _
      | refine LeO.ite ?_ ?_
      | refine LeO.bind ?_ (fun _ => ?_)
set_option maxHeartbeats 80000000 in
set_option maxRecDepth 100000 in
theorem rillmeterref22_Record.calls (k : Nat) (a0_0 : Int) (A0_1 : Option Addr) (c0_1 : Nat) (l0_1 : List (S88)) (A1 : Option Addr) (c1 : Nat) (l1 : List ByteArray) (r1 : ByteArray) (r2 : Bool) (w : World) (hr0_1 : Kd.C k88 w A0_1 l0_1.length l0_1) (hc0_1 : l0_1.length ≤ c0_1) (hr1 : Kd.C Kd.string w A1 l1.length l1) (hc1 : l1.length ≤ c1) (h : rillmeterref22_Record.f k a0_0 l0_1 l1 = some (r1, r2)) :
    Calls Try.prog 17 #[.agg #[.int .i64 a0_0, .slice A0_1 l0_1.length c0_1], .slice A1 l1.length c1] w fun e w' => e = .returned (.tuple #[.string r1, .bool r2]) ∧ Below w.heap.size w w' := by
 have hu46 := Try.underlying46; have aU := mk_ hr0_1; have fV := mk_ hc0_1; clear hr0_1 hc0_1; have HR1 := mk_ hr1; have HC1 := mk_ hc1; clear hr1 hc1; have HB := mk_ (Below.refl w.heap.size w); have H : (if (l1.length : Int) = (l0_1.length : Int) then (rillmeterref22_Record.l0 k l1 (⟨#[]⟩ : ByteArray) 0 a0_0 l0_1) else (some ((⟨#[]⟩ : ByteArray), false))) = some (r1, r2) := h; clear h
 by_cases c3 : (l1.length : Int) = (l0_1.length : Int)
 ·rw [if_pos c3] at H; have bU : ((l1.length : Int) == (l0_1.length : Int)) = true := beq_iff_eq.mpr c3; have bV : ((l1.length : Int) != (l0_1.length : Int)) = false := bne_eq_false_iff_eq.mpr c3
  have bW : (l1.length == l0_1.length) = true := by first | simpa using c3 | (simp at c3 ⊢; omega)
  clear c3; have H' := mk_ H; clear H
  go_enter Try.func17, Try.ntmps17
  go_wp2_with (first | ((with_reducible refine gate_dst (N := 2) rfl ?_); refine box_event ?hg (N := 2) ?hd (cs := #[.int .i64 a0_0, .slice A0_1 l0_1.length c0_1]) (t := 46) ?hr ?_; (case hd => rfl); (case hg => rfl); (case hr => first | (go_simp; done) | (go_simp; rfl)); intro aE hg w4 hbox hb; have n0_ := bs_ HB hb; have n1_ := mk_ (hbox); have n2_ := gx_ hg HB; have n3_ := gx_ hg HB; clear HB; have HB := n0_; have aB := n1_; have dR := n2_; have dS := n3_; clear n0_ n1_ n2_ n3_; clear hb hbox hg; have cG : w4.cell? ⟨aE, 0, none⟩ = some (.int .i64 a0_0) := bc_ aB 0; have cH : w4.cell? ⟨aE, 1, none⟩ = some (.slice A0_1 l0_1.length c0_1) := bc_ aB 1; have cI := blk_frozen aB.out 0; have cJ := blk_frozen aB.out 1))
  go_loopg [6, 7] k (fun kq v6 v7 w' => ∃ (aC : ByteArray) (aA : Int), v6 = .string aC ∧ v7 = .int .i64 aA ∧ Aside0 (rillmeterref22_Record.l0 kq l1 aC aA a0_0 l0_1 = some (r1, r2)) ∧ Aside0 (kq ≤ k) ∧ Aside0 (w'.heap[aE]? = some (.cells #[.int .i64 a0_0, (.slice A0_1 l0_1.length c0_1)] 46 (0, 0))) ∧ Aside0 (Below w.heap.size w w'))
  case atStart => exact ⟨((⟨#[]⟩ : ByteArray)), (0), (by first | rfl | (simp; done) | (simp [*]; done)), (by first | rfl | (simp; done) | (simp [*]; done)), H', ⟨Nat.le_refl _⟩, ⟨bk_ aB⟩, ⟨bl_ HB⟩⟩
  case round =>
   clear H'; (try clear c1); (try clear p2); (try clear c3); (try clear bU); (try clear bV); (try clear bW); (try clear cG); (try clear cH); (try clear cI); (try clear cJ); obtain ⟨aC, aA, rfl, rfl, HA, HK1, aB, HB⟩ := hrel
   cases gk with
   | zero => exact absurd HA.out (by simp [rillmeterref22_Record.l0])
   | succ k1 =>
    have H := HA.out; clear HA; simp only [rillmeterref22_Record.l0] at H
    by_cases c6 : aA < (l1.length : Int)
    ·rw [if_pos c6] at H; have cK : decide (aA < (l1.length : Int)) = true := decide_eq_true c6; clear c6
     by_cases c7 : 0 ≤ aA
     ·rw [if_pos c7] at H; have dA : decide (0 ≤ aA) = true := decide_eq_true c7; clear c7; have HC8 := mk_ H; clear H; have bD : 0 ≤ (aA : Int) := of_decide_eq_true (by first | (with_reducible assumption) | assumption); have bE : aA < (l1.length : Int) := of_decide_eq_true (by first | (with_reducible assumption) | assumption); obtain ⟨cL, e304, bF⟩ := Kd.at_string HR1.out aA bD bE
      cases e304; (try replace bF := (HB.out.cell (World.block_lt_of_cell? w _ bF)).trans bF); replace bD := eq_true bD; replace bE := eq_true bE
      go_upto_region 8 with (fail)
      go_cut [46] (fun dT wc => ∃ (kq : Nat) (bX : Bool), dT = .bool bX ∧ Aside0 (rillmeterref22_Record.j1 kq l1 aC aA ((rdOf ByteArray.empty l1 aA).size : Int) bX a0_0 l0_1 = some (r1, r2)) ∧ Aside0 (kq ≤ k1) ∧ Aside0 (wc.heap[aE]? = some (.cells #[.int .i64 a0_0, (.slice A0_1 l0_1.length c0_1)] 46 (0, 0))) ∧ Aside0 (Below w.heap.size w wc))
      case first =>
       have H := HC8.out; clear HC8
       by_cases c9 : ((rdOf ByteArray.empty l1 aA).size : Int) > 65535
       ·rw [if_pos c9] at H; have aV : decide (65535 < ((rdOf ByteArray.empty l1 aA).size : Int)) = true := decide_eq_true c9; have cM : decide (65535 < (rdOf ByteArray.empty l1 aA).size) = true := decide_eq_true (by omega); clear c9
        (first | rw [aV] | (simp only [i64_w, i32_w]; rw [aV]) | skip)
        have H' := mk_ H; clear H
        go_wp2
        go_meet
        case rel => exact ⟨_, (true), (by first | rfl | (simp; done) | (simp [*]; done)), H', ⟨by have := HK1.out; first | omega | exact Nat.le_refl _⟩, ⟨bk_ aB⟩, ⟨bl_ HB⟩⟩
       ·rw [if_neg c9] at H; have aV : decide (65535 < ((rdOf ByteArray.empty l1 aA).size : Int)) = false := decide_eq_false c9; have cM : decide (65535 < (rdOf ByteArray.empty l1 aA).size) = false := decide_eq_false (by omega); clear c9
        (first | rw [aV] | (simp only [i64_w, i32_w]; rw [aV]) | skip)
        by_cases bC : aA < (l0_1.length : Int)
        ·rw [if_pos bC] at H; have dB : decide (aA < (l0_1.length : Int)) = true := decide_eq_true bC; clear bC
         by_cases aI : ((rd_T88 l0_1 aA).f1) = 65535
         ·rw [if_pos aI] at H; have cN : (((rd_T88 l0_1 aA).f1) == 65535) = true := beq_iff_eq.mpr aI; have cO : (((rd_T88 l0_1 aA).f1) != 65535) = false := bne_eq_false_iff_eq.mpr aI; clear aI; have H' := mk_ H; clear H; have dC : wr.cell? ⟨aE, 0, none⟩ = some (.int .i64 a0_0) := bc_ aB 0; have dD : wr.cell? ⟨aE, 1, none⟩ = some (.slice A0_1 l0_1.length c0_1) := bc_ aB 1; have dE := blk_frozen aB.out 0; have dF := blk_frozen aB.out 1; have aJ : 0 ≤ (aA : Int) := of_decide_eq_true (by first | (with_reducible assumption) | assumption); have aK : aA < (l0_1.length : Int) := of_decide_eq_true (by first | (with_reducible assumption) | assumption); obtain ⟨dG, e305, aL, aM, aN⟩ := at_T88 aU.out aA aJ aK
          cases e305; (try replace aL := (HB.out.cell (World.block_lt_of_cell? w _ aL)).trans aL); (try replace aM := (HB.out.cell (World.block_lt_of_cell? w _ aM)).trans aM); (try replace aN := (HB.out.cell (World.block_lt_of_cell? w _ aN)).trans aN); replace aJ := eq_true aJ; replace aK := eq_true aK
          go_wp2
          go_meet
          case rel => exact ⟨_, (false), (by first | rfl | (simp; done) | (simp [*]; done)), H', ⟨by have := HK1.out; first | omega | exact Nat.le_refl _⟩, ⟨bk_ aB⟩, ⟨bl_ HB⟩⟩
         ·rw [if_neg aI] at H; have cN : (((rd_T88 l0_1 aA).f1) == 65535) = false := beq_eq_false_iff_ne.mpr aI; have cO : (((rd_T88 l0_1 aA).f1) != 65535) = true := bne_iff_ne.mpr aI; have H' := mk_ H; clear H; have dH : wr.cell? ⟨aE, 0, none⟩ = some (.int .i64 a0_0) := bc_ aB 0; have dI : wr.cell? ⟨aE, 1, none⟩ = some (.slice A0_1 l0_1.length c0_1) := bc_ aB 1; have dJ := blk_frozen aB.out 0; have dK := blk_frozen aB.out 1; have aJ : 0 ≤ (aA : Int) := of_decide_eq_true (by first | (with_reducible assumption) | assumption); have aK : aA < (l0_1.length : Int) := of_decide_eq_true (by first | (with_reducible assumption) | assumption); obtain ⟨dG, e305, aL, aM, aN⟩ := at_T88 aU.out aA aJ aK
          cases e305; (try replace aL := (HB.out.cell (World.block_lt_of_cell? w _ aL)).trans aL); (try replace aM := (HB.out.cell (World.block_lt_of_cell? w _ aM)).trans aM); (try replace aN := (HB.out.cell (World.block_lt_of_cell? w _ aN)).trans aN); replace aJ := eq_true aJ; replace aK := eq_true aK; have bG : 0 ≤ (aA : Int) := of_decide_eq_true (by first | (with_reducible assumption) | assumption); have bH : aA < (l0_1.length : Int) := of_decide_eq_true (by first | (with_reducible assumption) | assumption); obtain ⟨dU, e306, bI, bJ, bK⟩ := at_T88 aU.out aA bG bH; obtain rfl : dG = dU := (by injection e306); (try replace bI := (HB.out.cell (World.block_lt_of_cell? w _ bI)).trans bI); (try replace bJ := (HB.out.cell (World.block_lt_of_cell? w _ bJ)).trans bJ); (try replace bK := (HB.out.cell (World.block_lt_of_cell? w _ bK)).trans bK); replace bG := eq_true bG; replace bH := eq_true bH
          go_wp2
          go_meet
          case rel => exact ⟨_, ((((rd_T88 l0_1 aA).f1) != ((rdOf ByteArray.empty l1 aA).size : Int))), (by first | rfl | (simp; done) | (simp [*]; done)), H', ⟨by have := HK1.out; first | omega | exact Nat.le_refl _⟩, ⟨bk_ aB⟩, ⟨bl_ HB⟩⟩
        ·rw [if_neg bC] at H; exact absurd H (by simp)
      case rest =>
       clear HC8; (try clear c1); (try clear p2); (try clear c3); (try clear bU); (try clear bV); (try clear bW); (try clear p3); (try clear q3); (try clear hx3); (try clear c6); (try clear cK); (try clear c7); (try clear dA); (try clear c9); (try clear aV); (try clear cM); (try clear bC); (try clear dB); (try clear aI); (try clear cN); (try clear cO); (try clear dC); (try clear dD); (try clear dH); (try clear dI); (try clear cG); (try clear cH); (try clear dE); (try clear dF); (try clear dJ); (try clear dK); (try clear cI); (try clear cJ); (try clear bF); (try clear aL); (try clear aM); (try clear aN); (try clear bI); (try clear bJ); (try clear bK); (try clear p2); (try clear bD); (try clear aJ); (try clear bG); (try clear bE); (try clear aK); (try clear bH); obtain ⟨kq, bX, rfl, HA, HJ7, aB, HB⟩ := hcut
       cases kq with
       | zero => exact absurd HA.out (by simp [rillmeterref22_Record.j1])
       | succ cP =>
        have H := HA.out; clear HA; simp only [rillmeterref22_Record.j1] at H
        by_cases bL : bX = true
        ·subst bL
         have H1 : (some ((⟨#[]⟩ : ByteArray), false)) = some (r1, r2) := by rw [if_pos rfl] at H; exact H
         clear H; have H := H1; clear H1; simp only [Option.some.injEq, Prod.mk.injEq] at H; obtain ⟨rfl, rfl⟩ := H
         go_wp2
         go_ret2
         exact ⟨by first | rfl | (simp [errW_none, errW_some] <;> rfl) | (simp [*, errW_none, errW_some] <;> rfl), bl_ HB⟩
        ·replace bL := Bool.eq_false_iff.mpr bL; subst bL
         have H1 : (if 0 ≤ aA then (if aA < (l0_1.length : Int) then (if ((rd_T88 l0_1 aA).f1) = 65535 then (rillmeterref22_Record.j2 cP l1 aC aA ((rdOf ByteArray.empty l1 aA).size : Int) (decide (((rdOf ByteArray.empty l1 aA).size : Int) < 255)) a0_0 l0_1) else (rillmeterref22_Record.j2 cP l1 aC aA ((rdOf ByteArray.empty l1 aA).size : Int) false a0_0 l0_1)) else (none)) else (none)) = some (r1, r2) := by rw [if_neg (show ¬ (false = true) by decide)] at H; exact H
         clear H; have H := H1; clear H1; have HC15 := mk_ H; clear H
         go_upto_region 10 with (fail)
         go_cut [57] (fun dV wc => ∃ (kq : Nat) (bY : Bool), dV = .bool bY ∧ Aside0 (rillmeterref22_Record.j2 kq l1 aC aA ((rdOf ByteArray.empty l1 aA).size : Int) bY a0_0 l0_1 = some (r1, r2)) ∧ Aside0 (kq ≤ cP) ∧ Aside0 (wc.heap[aE]? = some (.cells #[.int .i64 a0_0, (.slice A0_1 l0_1.length c0_1)] 46 (0, 0))) ∧ Aside0 (Below w.heap.size w wc))
         case first =>
          have H := HC15.out; clear HC15
          by_cases bM : 0 ≤ aA
          ·rw [if_pos bM] at H; have cQ : decide (0 ≤ aA) = true := decide_eq_true bM; clear bM
           (first | rw [cQ] | (simp only [i64_w, i32_w]; rw [cQ]) | skip)
           by_cases bN : aA < (l0_1.length : Int)
           ·rw [if_pos bN] at H; have dW : decide (aA < (l0_1.length : Int)) = true := decide_eq_true bN; clear bN
            by_cases aO : ((rd_T88 l0_1 aA).f1) = 65535
            ·rw [if_pos aO] at H; have dL : (((rd_T88 l0_1 aA).f1) == 65535) = true := beq_iff_eq.mpr aO; have dM : (((rd_T88 l0_1 aA).f1) != 65535) = false := bne_eq_false_iff_eq.mpr aO; clear aO; have H' := mk_ H; clear H; have dX : wc.cell? ⟨aE, 0, none⟩ = some (.int .i64 a0_0) := bc_ aB 0; have dY : wc.cell? ⟨aE, 1, none⟩ = some (.slice A0_1 l0_1.length c0_1) := bc_ aB 1; have dZ := blk_frozen aB.out 0; have fA := blk_frozen aB.out 1; have aP : 0 ≤ (aA : Int) := of_decide_eq_true (by first | (with_reducible assumption) | assumption); have aQ : aA < (l0_1.length : Int) := of_decide_eq_true (by first | (with_reducible assumption) | assumption); obtain ⟨fB, e307, aR, aS, aT⟩ := at_T88 aU.out aA aP aQ
             cases e307; (try replace aR := (HB.out.cell (World.block_lt_of_cell? w _ aR)).trans aR); (try replace aS := (HB.out.cell (World.block_lt_of_cell? w _ aS)).trans aS); (try replace aT := (HB.out.cell (World.block_lt_of_cell? w _ aT)).trans aT); replace aP := eq_true aP; replace aQ := eq_true aQ
             go_wp2
             go_meet
             case rel => exact ⟨_, (decide (((rdOf ByteArray.empty l1 aA).size : Int) < 255)), (by first | rfl | (simp; done) | (simp [*]; done)), H', ⟨by have := HK1.out; have := HJ7.out; first | omega | exact Nat.le_refl _⟩, ⟨bk_ aB⟩, ⟨bl_ HB⟩⟩
            ·rw [if_neg aO] at H; have dL : (((rd_T88 l0_1 aA).f1) == 65535) = false := beq_eq_false_iff_ne.mpr aO; have dM : (((rd_T88 l0_1 aA).f1) != 65535) = true := bne_iff_ne.mpr aO; have H' := mk_ H; clear H; have fC : wc.cell? ⟨aE, 0, none⟩ = some (.int .i64 a0_0) := bc_ aB 0; have fD : wc.cell? ⟨aE, 1, none⟩ = some (.slice A0_1 l0_1.length c0_1) := bc_ aB 1; have fE := blk_frozen aB.out 0; have fF := blk_frozen aB.out 1; have aP : 0 ≤ (aA : Int) := of_decide_eq_true (by first | (with_reducible assumption) | assumption); have aQ : aA < (l0_1.length : Int) := of_decide_eq_true (by first | (with_reducible assumption) | assumption); obtain ⟨fB, e307, aR, aS, aT⟩ := at_T88 aU.out aA aP aQ
             cases e307; (try replace aR := (HB.out.cell (World.block_lt_of_cell? w _ aR)).trans aR); (try replace aS := (HB.out.cell (World.block_lt_of_cell? w _ aS)).trans aS); (try replace aT := (HB.out.cell (World.block_lt_of_cell? w _ aT)).trans aT); replace aP := eq_true aP; replace aQ := eq_true aQ
             go_wp2
             go_meet
             case rel => exact ⟨_, (false), (by first | rfl | (simp; done) | (simp [*]; done)), H', ⟨by have := HK1.out; have := HJ7.out; first | omega | exact Nat.le_refl _⟩, ⟨bk_ aB⟩, ⟨bl_ HB⟩⟩
           ·rw [if_neg bN] at H; exact absurd H (by simp)
          ·rw [if_neg bM] at H; exact absurd H (by simp)
         case rest =>
          clear HC15; (try clear c1); (try clear p2); (try clear c3); (try clear bU); (try clear bV); (try clear bW); (try clear p3); (try clear q3); (try clear hx3); (try clear c6); (try clear cK); (try clear c7); (try clear dA); (try clear c9); (try clear aV); (try clear cM); (try clear bC); (try clear dB); (try clear aI); (try clear cN); (try clear cO); (try clear bL); (try clear bM); (try clear cQ); (try clear bN); (try clear dW); (try clear aO); (try clear dL); (try clear dM); (try clear dC); (try clear dD); (try clear dH); (try clear dI); (try clear dX); (try clear dY); (try clear fC); (try clear fD); (try clear cG); (try clear cH); (try clear dE); (try clear dF); (try clear dJ); (try clear dK); (try clear dZ); (try clear fA); (try clear fE); (try clear fF); (try clear cI); (try clear cJ); (try clear bF); (try clear aL); (try clear aM); (try clear aN); (try clear bI); (try clear bJ); (try clear bK); (try clear aR); (try clear aS); (try clear aT); (try clear p2); (try clear p3); (try clear bD); (try clear aJ); (try clear bG); (try clear aP); (try clear q3); (try clear bE); (try clear aK); (try clear bH); (try clear aQ); obtain ⟨kq, bY, rfl, HA, HJ14, aB, HB⟩ := hcut
          cases kq with
          | zero => exact absurd HA.out (by simp [rillmeterref22_Record.j2])
          | succ aG =>
           have H := HA.out; clear HA; simp only [rillmeterref22_Record.j2] at H
           by_cases bZ : bY = true
           ·subst bZ
            have H1 : ((rillmeterref22_num.f aG ((rdOf ByteArray.empty l1 aA).size : Int) 1).bind fun aH => (if aC.size + aH.size ≤ 9223372036854775807 then (if 0 ≤ aA then (if aA < (l1.length : Int) then (if (aC ++ aH).size + (rdOf ByteArray.empty l1 aA).size ≤ 9223372036854775807 then (rillmeterref22_Record.l0 aG l1 ((aC ++ aH) ++ (rdOf ByteArray.empty l1 aA)) (wrap64 (aA + 1)) a0_0 l0_1) else (none)) else (none)) else (none)) else (none))) = some (r1, r2) := by rw [if_pos rfl] at H; exact H
            clear H; have H := H1; clear H1; replace H := Option.bind_eq_some_iff.mp H; obtain ⟨aH, dN, H⟩ := H; replace H : (if aC.size + aH.size ≤ 9223372036854775807 then (if 0 ≤ aA then (if aA < (l1.length : Int) then (if (aC ++ aH).size + (rdOf ByteArray.empty l1 aA).size ≤ 9223372036854775807 then (rillmeterref22_Record.l0 aG l1 ((aC ++ aH) ++ (rdOf ByteArray.empty l1 aA)) (wrap64 (aA + 1)) a0_0 l0_1) else (none)) else (none)) else (none)) else (none)) = some (r1, r2) := H; have fG := mk_ dN; clear dN
            by_cases bO : aC.size + aH.size ≤ 9223372036854775807
            ·rw [if_pos bO] at H; have fW := eq_true bO; have fX : decide (aC.size + aH.size ≤ 9223372036854775807) = true := decide_eq_true bO
             try have fY : (9223372036854775807 < aC.size + aH.size) = False := eq_false (Nat.not_lt.2 bO)
             by_cases cA : 0 ≤ aA
             ·rw [if_pos cA] at H; have fZ : decide (0 ≤ aA) = true := decide_eq_true cA; clear cA
              by_cases cB : aA < (l1.length : Int)
              ·rw [if_pos cB] at H; have gA : decide (aA < (l1.length : Int)) = true := decide_eq_true cB; clear cB
               by_cases bP : (aC ++ aH).size + (rdOf ByteArray.empty l1 aA).size ≤ 9223372036854775807
               ·rw [if_pos bP] at H; have gB := eq_true bP; have gC : decide ((aC ++ aH).size + (rdOf ByteArray.empty l1 aA).size ≤ 9223372036854775807) = true := decide_eq_true bP
                try have fH : (9223372036854775807 < (aC ++ aH).size + (rdOf ByteArray.empty l1 aA).size) = False := eq_false (Nat.not_lt.2 bP)
                try (have fI := fH; simp only [ByteArray.size_append] at fI)
                have H' := mk_ H; clear H
                go_wp2_with (first | ((with_reducible refine gate_callee (f := 38) rfl ?_); refine goesL_ (some 60) rfl rfl Try.func38 (by kernel_rfl) rfl #[.int .i64 ((rdOf ByteArray.empty l1 aA).size : Int), .int .i64 1] rfl (by (try simp only [List.map_toArray, List.map_cons, List.map_nil]); first | done | rfl | (simp only [List.length_drop, List.length_take]; rfl)) ?_; (with_reducible refine (rillmeterref22_num.calls aG ((rdOf ByteArray.empty l1 aA).size : Int) 1 aH _ fG.out).mono ?_); rintro e gD ⟨rfl, hb⟩; refine ⟨_, rfl, ?_⟩; have n0_ := bb_ aB hb; have n1_ := bs_ HB hb; clear aB; clear HB; have aB := n0_; have HB := n1_; clear n0_ n1_; (try clear hb); (try clear hb2); (try clear hk); (try clear hi); have cR : 0 ≤ (aA : Int) := of_decide_eq_true (by first | (with_reducible assumption) | assumption); have cS : aA < (l1.length : Int) := of_decide_eq_true (by first | (with_reducible assumption) | assumption); obtain ⟨fJ, e309, cT⟩ := Kd.at_string HR1.out aA cR cS; obtain rfl : cL = fJ := (by injection e309); replace cT := (HB.out.cell (World.block_lt_of_cell? w _ cT)).trans cT; replace cR := eq_true cR; replace cS := eq_true cS))
                go_roundg aG
                case measure => have := HK1.out; have := HJ7.out; have := HJ14.out; omega
                case rel => exact ⟨((aC ++ aH) ++ (rdOf ByteArray.empty l1 aA)), (wrap64 (aA + 1)), (by first | rfl | (simp; done) | (simp [*]; done)), (by first | rfl | (simp; done) | (simp [*]; done)), H', ⟨by have := HK1.out; have := HJ7.out; have := HJ14.out; omega⟩, ⟨bk_ aB⟩, ⟨bl_ HB⟩⟩
               ·rw [if_neg bP] at H; exact absurd H (by simp)
              ·rw [if_neg cB] at H; exact absurd H (by simp)
             ·rw [if_neg cA] at H; exact absurd H (by simp)
            ·rw [if_neg bO] at H; exact absurd H (by simp)
           ·replace bZ := Bool.eq_false_iff.mpr bZ; subst bZ
            have H1 : (if 0 ≤ aA then (if aA < (l0_1.length : Int) then (if ((rd_T88 l0_1 aA).f1) = 65535 then ((rillmeterref22_num.f aG 255 1).bind fun aD => (if aC.size + aD.size ≤ 9223372036854775807 then ((rillmeterref22_num.f aG ((rdOf ByteArray.empty l1 aA).size : Int) 2).bind fun aF => (if (aC ++ aD).size + aF.size ≤ 9223372036854775807 then (if aA < (l1.length : Int) then (if ((aC ++ aD) ++ aF).size + (rdOf ByteArray.empty l1 aA).size ≤ 9223372036854775807 then (rillmeterref22_Record.l0 aG l1 (((aC ++ aD) ++ aF) ++ (rdOf ByteArray.empty l1 aA)) (wrap64 (aA + 1)) a0_0 l0_1) else (none)) else (none)) else (none))) else (none))) else (if aA < (l1.length : Int) then (if aC.size + (rdOf ByteArray.empty l1 aA).size ≤ 9223372036854775807 then (rillmeterref22_Record.l0 aG l1 (aC ++ (rdOf ByteArray.empty l1 aA)) (wrap64 (aA + 1)) a0_0 l0_1) else (none)) else (none))) else (none)) else (none)) = some (r1, r2) := by rw [if_neg (show ¬ (false = true) by decide)] at H; exact H
            clear H; have H := H1; clear H1
            by_cases cC : 0 ≤ aA
            ·rw [if_pos cC] at H; have gE : decide (0 ≤ aA) = true := decide_eq_true cC; clear cC
             by_cases cD : aA < (l0_1.length : Int)
             ·rw [if_pos cD] at H; have gF : decide (aA < (l0_1.length : Int)) = true := decide_eq_true cD; clear cD
              by_cases aW : ((rd_T88 l0_1 aA).f1) = 65535
              ·rw [if_pos aW] at H; have fK : (((rd_T88 l0_1 aA).f1) == 65535) = true := beq_iff_eq.mpr aW; have fL : (((rd_T88 l0_1 aA).f1) != 65535) = false := bne_eq_false_iff_eq.mpr aW; clear aW; replace H := Option.bind_eq_some_iff.mp H; obtain ⟨aD, dO, H⟩ := H; replace H : (if aC.size + aD.size ≤ 9223372036854775807 then ((rillmeterref22_num.f aG ((rdOf ByteArray.empty l1 aA).size : Int) 2).bind fun aF => (if (aC ++ aD).size + aF.size ≤ 9223372036854775807 then (if aA < (l1.length : Int) then (if ((aC ++ aD) ++ aF).size + (rdOf ByteArray.empty l1 aA).size ≤ 9223372036854775807 then (rillmeterref22_Record.l0 aG l1 (((aC ++ aD) ++ aF) ++ (rdOf ByteArray.empty l1 aA)) (wrap64 (aA + 1)) a0_0 l0_1) else (none)) else (none)) else (none))) else (none)) = some (r1, r2) := H; have fM := mk_ dO; clear dO
               by_cases bQ : aC.size + aD.size ≤ 9223372036854775807
               ·rw [if_pos bQ] at H; have gG := eq_true bQ; have gH : decide (aC.size + aD.size ≤ 9223372036854775807) = true := decide_eq_true bQ
                try have gI : (9223372036854775807 < aC.size + aD.size) = False := eq_false (Nat.not_lt.2 bQ)
                replace H := Option.bind_eq_some_iff.mp H; obtain ⟨aF, dP, H⟩ := H; replace H : (if (aC ++ aD).size + aF.size ≤ 9223372036854775807 then (if aA < (l1.length : Int) then (if ((aC ++ aD) ++ aF).size + (rdOf ByteArray.empty l1 aA).size ≤ 9223372036854775807 then (rillmeterref22_Record.l0 aG l1 (((aC ++ aD) ++ aF) ++ (rdOf ByteArray.empty l1 aA)) (wrap64 (aA + 1)) a0_0 l0_1) else (none)) else (none)) else (none)) = some (r1, r2) := H; have fN := mk_ dP; clear dP
                by_cases bR : (aC ++ aD).size + aF.size ≤ 9223372036854775807
                ·rw [if_pos bR] at H; have gJ := eq_true bR; have gK : decide ((aC ++ aD).size + aF.size ≤ 9223372036854775807) = true := decide_eq_true bR
                 try have fO : (9223372036854775807 < (aC ++ aD).size + aF.size) = False := eq_false (Nat.not_lt.2 bR)
                 try (have fP := fO; simp only [ByteArray.size_append] at fP)
                 by_cases cE : aA < (l1.length : Int)
                 ·rw [if_pos cE] at H; have gL : decide (aA < (l1.length : Int)) = true := decide_eq_true cE; clear cE
                  by_cases bS : ((aC ++ aD) ++ aF).size + (rdOf ByteArray.empty l1 aA).size ≤ 9223372036854775807
                  ·rw [if_pos bS] at H; have gM := eq_true bS; have gN : decide (((aC ++ aD) ++ aF).size + (rdOf ByteArray.empty l1 aA).size ≤ 9223372036854775807) = true := decide_eq_true bS
                   try have fQ : (9223372036854775807 < ((aC ++ aD) ++ aF).size + (rdOf ByteArray.empty l1 aA).size) = False := eq_false (Nat.not_lt.2 bS)
                   try (have fR := fQ; simp only [ByteArray.size_append] at fR)
                   have H' := mk_ H; clear H; have gO : wc.cell? ⟨aE, 0, none⟩ = some (.int .i64 a0_0) := bc_ aB 0; have gP : wc.cell? ⟨aE, 1, none⟩ = some (.slice A0_1 l0_1.length c0_1) := bc_ aB 1; have gQ := blk_frozen aB.out 0; have gR := blk_frozen aB.out 1; have aX : 0 ≤ (aA : Int) := of_decide_eq_true (by first | (with_reducible assumption) | assumption); have aY : aA < (l0_1.length : Int) := of_decide_eq_true (by first | (with_reducible assumption) | assumption); obtain ⟨fS, e310, aZ, bA, bB⟩ := at_T88 aU.out aA aX aY
                   cases e310; (try replace aZ := (HB.out.cell (World.block_lt_of_cell? w _ aZ)).trans aZ); (try replace bA := (HB.out.cell (World.block_lt_of_cell? w _ bA)).trans bA); (try replace bB := (HB.out.cell (World.block_lt_of_cell? w _ bB)).trans bB); replace aX := eq_true aX; replace aY := eq_true aY
                   go_wp2_with (first | ((with_reducible refine gate_callee (f := 38) rfl ?_); refine goesL_ (some 70) rfl rfl Try.func38 (by kernel_rfl) rfl #[.int .i64 255, .int .i64 1] rfl (by (try simp only [List.map_toArray, List.map_cons, List.map_nil]); first | done | rfl | (simp only [List.length_drop, List.length_take]; rfl)) ?_; (with_reducible refine (rillmeterref22_num.calls aG 255 1 aD _ fM.out).mono ?_); rintro e gS ⟨rfl, hb⟩; refine ⟨_, rfl, ?_⟩; have n0_ := bb_ aB hb; have n1_ := bs_ HB hb; clear aB; clear HB; have aB := n0_; have HB := n1_; clear n0_ n1_; (try clear hb); (try clear hb2); (try clear hk); (try clear hi)) | ((with_reducible refine gate_callee (f := 38) rfl ?_); refine goesL_ (some 73) rfl rfl Try.func38 (by kernel_rfl) rfl #[.int .i64 ((rdOf ByteArray.empty l1 aA).size : Int), .int .i64 2] rfl (by (try simp only [List.map_toArray, List.map_cons, List.map_nil]); first | done | rfl | (simp only [List.length_drop, List.length_take]; rfl)) ?_; (with_reducible refine (rillmeterref22_num.calls aG ((rdOf ByteArray.empty l1 aA).size : Int) 2 aF _ fN.out).mono ?_); rintro e gT ⟨rfl, hb⟩; refine ⟨_, rfl, ?_⟩; have n0_ := bb_ aB hb; have n1_ := bs_ HB hb; clear aB; clear HB; have aB := n0_; have HB := n1_; clear n0_ n1_; (try clear hb); (try clear hb2); (try clear hk); (try clear hi); have cU : 0 ≤ (aA : Int) := of_decide_eq_true (by first | (with_reducible assumption) | assumption); have cV : aA < (l1.length : Int) := of_decide_eq_true (by first | (with_reducible assumption) | assumption); obtain ⟨fT, e313, cW⟩ := Kd.at_string HR1.out aA cU cV; obtain rfl : cL = fT := (by injection e313); replace cW := (HB.out.cell (World.block_lt_of_cell? w _ cW)).trans cW; replace cU := eq_true cU; replace cV := eq_true cV))
                   go_roundg aG
                   case measure => have := HK1.out; have := HJ7.out; have := HJ14.out; omega
                   case rel => exact ⟨(((aC ++ aD) ++ aF) ++ (rdOf ByteArray.empty l1 aA)), (wrap64 (aA + 1)), (by first | rfl | (simp; done) | (simp [*]; done)), (by first | rfl | (simp; done) | (simp [*]; done)), H', ⟨by have := HK1.out; have := HJ7.out; have := HJ14.out; omega⟩, ⟨bk_ aB⟩, ⟨bl_ HB⟩⟩
                  ·rw [if_neg bS] at H; exact absurd H (by simp)
                 ·rw [if_neg cE] at H; exact absurd H (by simp)
                ·rw [if_neg bR] at H; exact absurd H (by simp)
               ·rw [if_neg bQ] at H; exact absurd H (by simp)
              ·rw [if_neg aW] at H; have fK : (((rd_T88 l0_1 aA).f1) == 65535) = false := beq_eq_false_iff_ne.mpr aW; have fL : (((rd_T88 l0_1 aA).f1) != 65535) = true := bne_iff_ne.mpr aW
               by_cases cF : aA < (l1.length : Int)
               ·rw [if_pos cF] at H; have gU : decide (aA < (l1.length : Int)) = true := decide_eq_true cF; clear cF
                by_cases bT : aC.size + (rdOf ByteArray.empty l1 aA).size ≤ 9223372036854775807
                ·rw [if_pos bT] at H; have gV := eq_true bT; have gW : decide (aC.size + (rdOf ByteArray.empty l1 aA).size ≤ 9223372036854775807) = true := decide_eq_true bT
                 try have gX : (9223372036854775807 < aC.size + (rdOf ByteArray.empty l1 aA).size) = False := eq_false (Nat.not_lt.2 bT)
                 have H' := mk_ H; clear H; have gY : wc.cell? ⟨aE, 0, none⟩ = some (.int .i64 a0_0) := bc_ aB 0; have gZ : wc.cell? ⟨aE, 1, none⟩ = some (.slice A0_1 l0_1.length c0_1) := bc_ aB 1; have hA := blk_frozen aB.out 0; have hB := blk_frozen aB.out 1; have aX : 0 ≤ (aA : Int) := of_decide_eq_true (by first | (with_reducible assumption) | assumption); have aY : aA < (l0_1.length : Int) := of_decide_eq_true (by first | (with_reducible assumption) | assumption); obtain ⟨fS, e310, aZ, bA, bB⟩ := at_T88 aU.out aA aX aY
                 cases e310; (try replace aZ := (HB.out.cell (World.block_lt_of_cell? w _ aZ)).trans aZ); (try replace bA := (HB.out.cell (World.block_lt_of_cell? w _ bA)).trans bA); (try replace bB := (HB.out.cell (World.block_lt_of_cell? w _ bB)).trans bB); replace aX := eq_true aX; replace aY := eq_true aY; have cX : 0 ≤ (aA : Int) := of_decide_eq_true (by first | (with_reducible assumption) | assumption); have cY : aA < (l1.length : Int) := of_decide_eq_true (by first | (with_reducible assumption) | assumption); obtain ⟨fU, e314, cZ⟩ := Kd.at_string HR1.out aA cX cY; obtain rfl : cL = fU := (by injection e314); (try replace cZ := (HB.out.cell (World.block_lt_of_cell? w _ cZ)).trans cZ); replace cX := eq_true cX; replace cY := eq_true cY
                 go_wp2
                 go_roundg aG
                 case measure => have := HK1.out; have := HJ7.out; have := HJ14.out; omega
                 case rel => exact ⟨(aC ++ (rdOf ByteArray.empty l1 aA)), (wrap64 (aA + 1)), (by first | rfl | (simp; done) | (simp [*]; done)), (by first | rfl | (simp; done) | (simp [*]; done)), H', ⟨by have := HK1.out; have := HJ7.out; have := HJ14.out; omega⟩, ⟨bk_ aB⟩, ⟨bl_ HB⟩⟩
                ·rw [if_neg bT] at H; exact absurd H (by simp)
               ·rw [if_neg cF] at H; exact absurd H (by simp)
             ·rw [if_neg cD] at H; exact absurd H (by simp)
            ·rw [if_neg cC] at H; exact absurd H (by simp)
     ·rw [if_neg c7] at H; exact absurd H (by simp)
    ·rw [if_neg c6] at H; have cK : decide (aA < (l1.length : Int)) = false := decide_eq_false c6; clear c6; simp only [Option.some.injEq, Prod.mk.injEq] at H; obtain ⟨rfl, rfl⟩ := H
     go_wp2
     go_ret2
     exact ⟨by first | rfl | (simp [errW_none, errW_some] <;> rfl) | (simp [*, errW_none, errW_some] <;> rfl), bl_ HB⟩
 ·rw [if_neg c3] at H; have bU : ((l1.length : Int) == (l0_1.length : Int)) = false := beq_eq_false_iff_ne.mpr c3; have bV : ((l1.length : Int) != (l0_1.length : Int)) = true := bne_iff_ne.mpr c3
  have bW : (l1.length == l0_1.length) = false := by first | simpa using c3 | (simp at c3 ⊢; omega)
  simp only [Option.some.injEq, Prod.mk.injEq] at H; obtain ⟨rfl, rfl⟩ := H
  go_enter Try.func17, Try.ntmps17
  go_wp2_with (first | ((with_reducible refine gate_dst (N := 2) rfl ?_); refine box_event ?hg (N := 2) ?hd (cs := #[.int .i64 a0_0, .slice A0_1 l0_1.length c0_1]) (t := 46) ?hr ?_; (case hd => rfl); (case hg => rfl); (case hr => first | (go_simp; done) | (go_simp; rfl)); intro aE hg dQ hbox hb; have n0_ := bs_ HB hb; have n1_ := mk_ (hbox); have n2_ := gx_ hg HB; have n3_ := gx_ hg HB; clear HB; have HB := n0_; have aB := n1_; have dR := n2_; have dS := n3_; clear n0_ n1_ n2_ n3_; clear hb hbox hg; have hC : dQ.cell? ⟨aE, 0, none⟩ = some (.int .i64 a0_0) := bc_ aB 0; have hD : dQ.cell? ⟨aE, 1, none⟩ = some (.slice A0_1 l0_1.length c0_1) := bc_ aB 1; have hE := blk_frozen aB.out 0; have hF := blk_frozen aB.out 1))
  go_ret2
  exact ⟨by first | rfl | (simp [errW_none, errW_some] <;> rfl) | (simp [*, errW_none, errW_some] <;> rfl), bl_ HB⟩

/-! ### rillmeterref04_Number: function 53 -/
def rillmeterref04_Number.l0 : Nat → ByteArray → Int → Int → Option (Int)
  | 0, _, _, _ => none
  | k + 1, x0, x3, x4 => if x4 < (x0.size : Int) then (if 0 ≤ x4 then (rillmeterref04_Number.l0 k x0 (wrap64 ((wrap64 (256 * x3)) + (wrap64 (bt x0 x4)))) (wrap64 (x4 + 1))) else (none)) else (some x3)
def rillmeterref04_Number.f (k : Nat) (a0 : ByteArray) : Option (Int) := rillmeterref04_Number.l0 k a0 0 0
theorem rillmeterref04_Number.mono_l : ∀ k, (∀ y0 y1 y2, LeO (rillmeterref04_Number.l0 k y0 y1 y2) (rillmeterref04_Number.l0 (k + 1) y0 y1 y2))
  | 0 => fun _ _ _ r h => by simp [rillmeterref04_Number.l0] at h
  | k + 1 => by
    have ih0 := rillmeterref04_Number.mono_l k
    · intro y0 y1 y2
      unfold rillmeterref04_Number.l0
      repeat' first
      | (with_reducible exact ih0 _ _ _)
      | (with_reducible exact LeO.refl _)
      | (with_reducible exact LeO.none _)
      | (with_reducible refine LeO.ite ?_ ?_)
      | (with_reducible refine LeO.bind ?_ (fun _ => ?_))
      | exact ih0 _ _ _
      | exact LeO.none _
      | refine LeO.ite ?_ ?_
      | refine LeO.bind ?_ (fun _ => ?_)
theorem rillmeterref04_Number.mono : ∀ a0 k, LeO (rillmeterref04_Number.f k a0) (rillmeterref04_Number.f (k + 1) a0) := by
  intro a0 k
  have ih0 := rillmeterref04_Number.mono_l k
  unfold rillmeterref04_Number.f
  repeat' first
      | (with_reducible exact ih0 _ _ _)
      | (with_reducible exact LeO.refl _)
      | (with_reducible exact LeO.none _)
      | (with_reducible refine LeO.ite ?_ ?_)
      | (with_reducible refine LeO.bind ?_ (fun _ => ?_))
      | exact ih0 _ _ _
      | exact LeO.none _
      | refine LeO.ite ?_ ?_
      | refine LeO.bind ?_ (fun _ => ?_)
set_option maxHeartbeats 80000000 in
set_option maxRecDepth 100000 in
theorem rillmeterref04_Number.calls (k : Nat) (a0 : ByteArray) (r : Int) (w : World) (h : rillmeterref04_Number.f k a0 = some r) :
    Calls Try.prog 53 #[.string a0] w fun e w' => e = .returned (.int .i64 r) ∧ Drawn0 w w' := by
 have H : (rillmeterref04_Number.l0 k a0 0 0) = some r := h; clear h; have H' := mk_ H; clear H
 go_enter Try.func53, Try.ntmps53
 go_wp2
 go_loopg [3, 4] k (fun kq v3 v4 w' => ∃ (aB : Int) (aA : Int), v3 = .int .i64 aB ∧ v4 = .int .i64 aA ∧ Aside0 (rillmeterref04_Number.l0 kq a0 aB aA = some r) ∧ Aside0 (kq ≤ k) ∧ Drawn0 w w')
 case atStart => exact ⟨(0), (0), (by first | rfl | (simp; done) | (simp [*]; done)), (by first | rfl | (simp; done) | (simp [*]; done)), H', ⟨Nat.le_refl _⟩, by repeat (first | exact Drawn0.refl _ | apply Drawn0.step)⟩
 case round =>
  clear H'; obtain ⟨aB, aA, rfl, rfl, HA, HK1, ⟨m1, rfl⟩⟩ := hrel
  cases gk with
  | zero => exact absurd HA.out (by simp [rillmeterref04_Number.l0])
  | succ k1 =>
   have H := HA.out; clear HA; simp only [rillmeterref04_Number.l0] at H
   by_cases c2 : aA < (a0.size : Int)
   ·rw [if_pos c2] at H; have aC : decide (aA < (a0.size : Int)) = true := decide_eq_true c2; clear c2
    by_cases c3 : 0 ≤ aA
    ·rw [if_pos c3] at H; have aD : decide (0 ≤ aA) = true := decide_eq_true c3; clear c3; have H' := mk_ H; clear H; have p4 : 0 ≤ (aA : Int) := of_decide_eq_true (by first | (with_reducible assumption) | assumption); have q4 : aA < (a0.size : Int) := of_decide_eq_true (by first | (with_reducible assumption) | assumption); have hx4 := bt_at a0 aA; replace p4 := eq_true p4; replace q4 := eq_true q4
     go_wp2
     go_roundg k1
     case measure => have := HK1.out; omega
     case rel => exact ⟨(wrap64 ((wrap64 (256 * aB)) + (wrap64 (bt a0 aA)))), (wrap64 (aA + 1)), (by first | rfl | (simp; done) | (simp [*]; done)), (by first | rfl | (simp; done) | (simp [*]; done)), H', ⟨by have := HK1.out; omega⟩, by repeat (first | exact Drawn0.refl _ | apply Drawn0.step)⟩
    ·rw [if_neg c3] at H; exact absurd H (by simp)
   ·rw [if_neg c2] at H; have aC : decide (aA < (a0.size : Int)) = false := decide_eq_false c2; clear c2; obtain rfl := Option.some.inj H
    go_wp2
    go_ret; exact ⟨by first | rfl | (simp; done) | (simp [*]; done), by repeat (first | exact Drawn0.refl _ | apply Drawn0.step)⟩

/-! ### rillmeterref22_number: function 39 -/
def rillmeterref22_number.f (k : Nat) (a0 : ByteArray) (a1 : Int) (a2 : Int) : Option (Int) := if (wrap64 (a1 + a2)) > (a0.size : Int) then (some (-1)) else (if 0 ≤ a1 then (if a1 ≤ (wrap64 (a1 + a2)) then (if (wrap64 (a1 + a2)) ≤ (a0.size : Int) then ((rillmeterref04_Number.f k (a0.extract (a1 : Int).toNat ((wrap64 (a1 + a2)) : Int).toNat)).bind fun t315 => (some t315)) else (none)) else (none)) else (none))
theorem rillmeterref22_number.mono : ∀ a0 a1 a2 k, LeO (rillmeterref22_number.f k a0 a1 a2) (rillmeterref22_number.f (k + 1) a0 a1 a2) := by
  intro a0 a1 a2 k
  unfold rillmeterref22_number.f
  repeat' first
      | (with_reducible exact rillmeterref04_Number.mono _ _)
      | (with_reducible exact LeO.refl _)
      | (with_reducible exact LeO.none _)
      | (with_reducible refine LeO.ite ?_ ?_)
      | (with_reducible refine LeO.bind ?_ (fun _ => ?_))
      | exact rillmeterref04_Number.mono _ _
      | exact LeO.none _
      | refine LeO.ite ?_ ?_
      | refine LeO.bind ?_ (fun _ => ?_)
set_option maxHeartbeats 80000000 in
set_option maxRecDepth 100000 in
theorem rillmeterref22_number.calls (k : Nat) (a0 : ByteArray) (a1 : Int) (a2 : Int) (r : Int) (w : World) (h : rillmeterref22_number.f k a0 a1 a2 = some r) :
    Calls Try.prog 39 #[.string a0, .int .i64 a1, .int .i64 a2] w fun e w' => e = .returned (.int .i64 r) ∧ Drawn0 w w' := by
 have H : (if (wrap64 (a1 + a2)) > (a0.size : Int) then (some (-1)) else (if 0 ≤ a1 then (if a1 ≤ (wrap64 (a1 + a2)) then (if (wrap64 (a1 + a2)) ≤ (a0.size : Int) then ((rillmeterref04_Number.f k (a0.extract (a1 : Int).toNat ((wrap64 (a1 + a2)) : Int).toNat)).bind fun aA => (some aA)) else (none)) else (none)) else (none))) = some r := h; clear h
 by_cases c4 : (wrap64 (a1 + a2)) > (a0.size : Int)
 ·rw [if_pos c4] at H; have aC : decide ((a0.size : Int) < (wrap64 (a1 + a2))) = true := decide_eq_true c4; clear c4; obtain rfl := Option.some.inj H
  go_enter Try.func39, Try.ntmps39
  go_wp2
  go_ret; exact ⟨by first | rfl | (simp; done) | (simp [*]; done), by repeat (first | exact Drawn0.refl _ | apply Drawn0.step)⟩
 ·rw [if_neg c4] at H; have aC : decide ((a0.size : Int) < (wrap64 (a1 + a2))) = false := decide_eq_false c4; clear c4
  by_cases c5 : 0 ≤ a1
  ·rw [if_pos c5] at H; have aD := eq_true c5; have aE : decide (0 ≤ a1) = true := decide_eq_true c5; clear c5
   by_cases c6 : a1 ≤ (wrap64 (a1 + a2))
   ·rw [if_pos c6] at H; have aF := eq_true c6; have aG : decide (a1 ≤ (wrap64 (a1 + a2))) = true := decide_eq_true c6
    by_cases c7 : (wrap64 (a1 + a2)) ≤ (a0.size : Int)
    ·rw [if_pos c7] at H; have aH := eq_true c7; have aI : decide ((wrap64 (a1 + a2)) ≤ (a0.size : Int)) = true := decide_eq_true c7; replace H := Option.bind_eq_some_iff.mp H; obtain ⟨aA, aB, H⟩ := H; replace H : (some aA) = some r := H; have A8 := mk_ aB; clear aB; obtain rfl := Option.some.inj H
     go_enter Try.func39, Try.ntmps39
     go_wp2_with (first | ((with_reducible refine gate_callee (f := 53) rfl ?_); refine goesL_ (some 19) rfl rfl Try.func53 (by kernel_rfl) rfl #[.string (a0.extract (a1 : Int).toNat ((wrap64 (a1 + a2)) : Int).toNat)] rfl (by (try simp only [List.map_toArray, List.map_cons, List.map_nil]); first | done | rfl | (simp only [List.length_drop, List.length_take]; rfl)) ?_; (with_reducible refine (rillmeterref04_Number.calls k (a0.extract (a1 : Int).toNat ((wrap64 (a1 + a2)) : Int).toNat) aA _ A8.out).mono ?_); rintro e w' ⟨rfl, ⟨nd, rfl⟩⟩; refine ⟨_, rfl, ?_⟩))
     go_ret; exact ⟨by first | rfl | (simp; done) | (simp [*]; done), by repeat (first | exact Drawn0.refl _ | apply Drawn0.step)⟩
    ·rw [if_neg c7] at H; exact absurd H (by simp)
   ·rw [if_neg c6] at H; exact absurd H (by simp)
  ·rw [if_neg c5] at H; exact absurd H (by simp)

end Go.Proofs.Ytojmpdjbhplgkaa.PIpfixRecords
