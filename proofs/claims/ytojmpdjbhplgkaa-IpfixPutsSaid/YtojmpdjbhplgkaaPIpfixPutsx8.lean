/- The functions that a law uses, each as a plain function, with the proof that a call of the Go function comes to its answer. Condition of each: the arguments read as the data that it names, and the plain function has an answer. Written by a program of this session (standin.py). -/
import Derived.Test.YtojmpdjbhplgkaaPIpfixPutsx0
import Derived.Test.YtojmpdjbhplgkaaPIpfixPutsx7
import Derived.Test.YtojmpdjbhplgkaaShort
import Derived.Lib.SliceRun
import Derived.Test.YtojmpdjbhplgkaaPressMore
namespace Go.Proofs.Ytojmpdjbhplgkaa.PIpfixPuts
open Go.RowKit Go.Proofs.YtojmpdjbhplgkaaW.PrintWords Go.Proofs.YtojmpdjbhplgkaaW.PrintLast Go.Proofs.YtojmpdjbhplgkaaW.PrintMore Go.Proofs.Ytojmpdjbhplgkaa.Short Go.Proofs.Ytojmpdjbhplgkaa.Press Go.Proofs.Ytojmpdjbhplgkaa.PressMore
attribute [local go_sem] max2_int min2_int max_two min_two max_three min_three max_four min_four   -- for this text's walks alone
set_option linter.unusedVariables false
set_option linter.unusedSimpArgs false

/-! ### rillmeterref22_Right: function 22 -/
mutual
def rillmeterref22_Right.l0 : Nat → Int → Int → Int → Int → List (S93) → Option (Bool)
  | 0, _, _, _, _, _ => none
  | k + 1, x3, x278000, x278001, x278002, x278003 => if x3 < (x278003.length : Int) then (if 0 ≤ x3 then (if ((rd_T93 x278003 x3).f0) = 2 then (if (((rd_T93 x278003 x3).f2).size : Int) > 0 then (some false) else (if (((rd_T93 x278003 x3).f1).length : Int) = 0 then (some false) else (rillmeterref22_Right.j1 k x3 x278000 x278001 x278002 x278003 ((rd_T93 x278003 x3).f0) ((rd_T93 x278003 x3).f1) ((rd_T93 x278003 x3).f2)))) else ((rillmeterref22_in.f ((rd_T93 x278003 x3).f0) 256 65535).bind fun t283 => (if t283 = true then (if (((rd_T93 x278003 x3).f1).length : Int) > 0 then (some false) else (rillmeterref22_Right.j1 k x3 x278000 x278001 x278002 x278003 ((rd_T93 x278003 x3).f0) ((rd_T93 x278003 x3).f1) ((rd_T93 x278003 x3).f2))) else (some false)))) else (none)) else ((rillmeterref22_in.f x278000 0 4294967295).bind fun t278 => (if t278 = true then ((rillmeterref22_in.f x278001 0 4294967295).bind fun t279 => (if t279 = true then ((rillmeterref22_in.f x278002 0 4294967295).bind fun t280 => (some t280)) else (some false))) else (some false)))
def rillmeterref22_Right.j1 : Nat → Int → Int → Int → Int → List (S93) → Int → List (S46) → ByteArray → Option (Bool)
  | 0, _, _, _, _, _, _, _, _ => none
  | k + 1, x3, x278000, x278001, x278002, x278003, x283000, x283001, x283002 => rillmeterref22_Right.l1 k x3 0 x278000 x278001 x278002 x278003 x283000 x283001 x283002
def rillmeterref22_Right.l1 : Nat → Int → Int → Int → Int → Int → List (S93) → Int → List (S46) → ByteArray → Option (Bool)
  | 0, _, _, _, _, _, _, _, _, _ => none
  | k + 1, x3, x5, x278000, x278001, x278002, x278003, x283000, x283001, x283002 => if x5 < (x283001.length : Int) then (if 0 ≤ x5 then ((rillmeterref22_Sound.f k ((rd_T46 x283001 x5).f0) ((rd_T46 x283001 x5).f1)).bind fun t285 => (if t285 = true then (rillmeterref22_Right.l1 k x3 (wrap64 (x5 + 1)) x278000 x278001 x278002 x278003 x283000 x283001 x283002) else (some false))) else (none)) else (rillmeterref22_Right.l0 k (wrap64 (x3 + 1)) x278000 x278001 x278002 x278003)
end
def rillmeterref22_Right.f (k : Nat) (a0_0 : Int) (a0_1 : Int) (a0_2 : Int) (l0_3 : List (S93)) : Option (Bool) := rillmeterref22_Right.l0 k 0 a0_0 a0_1 a0_2 l0_3
theorem rillmeterref22_Right.mono_l : ∀ k, (∀ y0 y1 y2 y3 y4, LeO (rillmeterref22_Right.l0 k y0 y1 y2 y3 y4) (rillmeterref22_Right.l0 (k + 1) y0 y1 y2 y3 y4)) ∧ (∀ y0 y1 y2 y3 y4 y5 y6 y7, LeO (rillmeterref22_Right.j1 k y0 y1 y2 y3 y4 y5 y6 y7) (rillmeterref22_Right.j1 (k + 1) y0 y1 y2 y3 y4 y5 y6 y7)) ∧ (∀ y0 y1 y2 y3 y4 y5 y6 y7 y8, LeO (rillmeterref22_Right.l1 k y0 y1 y2 y3 y4 y5 y6 y7 y8) (rillmeterref22_Right.l1 (k + 1) y0 y1 y2 y3 y4 y5 y6 y7 y8))
  | 0 => ⟨fun _ _ _ _ _ r h => by simp [rillmeterref22_Right.l0] at h, fun _ _ _ _ _ _ _ _ r h => by simp [rillmeterref22_Right.j1] at h, fun _ _ _ _ _ _ _ _ _ r h => by simp [rillmeterref22_Right.l1] at h⟩
  | k + 1 => by
    obtain ⟨ih0, ih1, ih2⟩ := rillmeterref22_Right.mono_l k
    refine ⟨?_, ?_, ?_⟩
    · intro y0 y1 y2 y3 y4
      unfold rillmeterref22_Right.l0
      repeat' first
      | (with_reducible exact ih0 _ _ _ _ _)
      | (with_reducible exact ih1 _ _ _ _ _ _ _ _)
      | (with_reducible exact ih2 _ _ _ _ _ _ _ _ _)
      | (with_reducible exact rillmeterref22_Sound.mono _ _ _)
      | (with_reducible exact LeO.refl _)
      | (with_reducible exact LeO.none _)
      | (with_reducible refine LeO.ite ?_ ?_)
      | (with_reducible refine LeO.bind ?_ (fun _ => ?_))
      | exact ih0 _ _ _ _ _
      | exact ih1 _ _ _ _ _ _ _ _
      | exact ih2 _ _ _ _ _ _ _ _ _
      | exact rillmeterref22_Sound.mono _ _ _
      | exact LeO.none _
      | refine LeO.ite ?_ ?_
      | refine LeO.bind ?_ (fun _ => ?_)
    · intro y0 y1 y2 y3 y4 y5 y6 y7
      unfold rillmeterref22_Right.j1
      repeat' first
      | (with_reducible exact ih0 _ _ _ _ _)
      | (with_reducible exact ih1 _ _ _ _ _ _ _ _)
      | (with_reducible exact ih2 _ _ _ _ _ _ _ _ _)
      | (with_reducible exact rillmeterref22_Sound.mono _ _ _)
      | (with_reducible exact LeO.refl _)
      | (with_reducible exact LeO.none _)
      | (with_reducible refine LeO.ite ?_ ?_)
      | (with_reducible refine LeO.bind ?_ (fun _ => ?_))
      | exact ih0 _ _ _ _ _
      | exact ih1 _ _ _ _ _ _ _ _
      | exact ih2 _ _ _ _ _ _ _ _ _
      | exact rillmeterref22_Sound.mono _ _ _
      | exact LeO.none _
      | refine LeO.ite ?_ ?_
      | refine LeO.bind ?_ (fun _ => ?_)
    · intro y0 y1 y2 y3 y4 y5 y6 y7 y8
      unfold rillmeterref22_Right.l1
      repeat' first
      | (with_reducible exact ih0 _ _ _ _ _)
      | (with_reducible exact ih1 _ _ _ _ _ _ _ _)
      | (with_reducible exact ih2 _ _ _ _ _ _ _ _ _)
      | (with_reducible exact rillmeterref22_Sound.mono _ _ _)
      | (with_reducible exact LeO.refl _)
      | (with_reducible exact LeO.none _)
      | (with_reducible refine LeO.ite ?_ ?_)
      | (with_reducible refine LeO.bind ?_ (fun _ => ?_))
      | exact ih0 _ _ _ _ _
      | exact ih1 _ _ _ _ _ _ _ _
      | exact ih2 _ _ _ _ _ _ _ _ _
      | exact rillmeterref22_Sound.mono _ _ _
      | exact LeO.none _
      | refine LeO.ite ?_ ?_
      | refine LeO.bind ?_ (fun _ => ?_)
theorem rillmeterref22_Right.mono : ∀ a0 a1 a2 a3 k, LeO (rillmeterref22_Right.f k a0 a1 a2 a3) (rillmeterref22_Right.f (k + 1) a0 a1 a2 a3) := by
  intro a0 a1 a2 a3 k
  obtain ⟨ih0, ih1, ih2⟩ := rillmeterref22_Right.mono_l k
  unfold rillmeterref22_Right.f
  repeat' first
      | (with_reducible exact ih0 _ _ _ _ _)
      | (with_reducible exact ih1 _ _ _ _ _ _ _ _)
      | (with_reducible exact ih2 _ _ _ _ _ _ _ _ _)
      | (with_reducible exact rillmeterref22_Sound.mono _ _ _)
      | (with_reducible exact LeO.refl _)
      | (with_reducible exact LeO.none _)
      | (with_reducible refine LeO.ite ?_ ?_)
      | (with_reducible refine LeO.bind ?_ (fun _ => ?_))
      | exact ih0 _ _ _ _ _
      | exact ih1 _ _ _ _ _ _ _ _
      | exact ih2 _ _ _ _ _ _ _ _ _
      | exact rillmeterref22_Sound.mono _ _ _
      | exact LeO.none _
      | refine LeO.ite ?_ ?_
      | refine LeO.bind ?_ (fun _ => ?_)
set_option maxHeartbeats 80000000 in
set_option maxRecDepth 100000 in
theorem rillmeterref22_Right.calls (k : Nat) (a0_0 : Int) (a0_1 : Int) (a0_2 : Int) (A0_3 : Option Addr) (c0_3 : Nat) (l0_3 : List (S93)) (r : Bool) (w : World) (hr0_3 : Kd.C k93 w A0_3 l0_3.length l0_3) (hc0_3 : l0_3.length ≤ c0_3) (h : rillmeterref22_Right.f k a0_0 a0_1 a0_2 l0_3 = some r) :
    Calls Try.prog 22 #[.agg #[.int .i64 a0_0, .int .i64 a0_1, .int .i64 a0_2, .slice A0_3 l0_3.length c0_3]] w fun e w' => e = .returned (.bool r) ∧ Below w.heap.size w w' := by
 have hu58 := Try.underlying58; have hu93 := Try.underlying93; have hu46 := Try.underlying46; have fF := mk_ hr0_3; have fP := mk_ hc0_3; clear hr0_3 hc0_3; have HB := mk_ (Below.refl w.heap.size w); have H : (rillmeterref22_Right.l0 k 0 a0_0 a0_1 a0_2 l0_3) = some r := h; clear h; have H' := mk_ H; clear H
 go_enter Try.func22, Try.ntmps22
 go_wp2_with (first | ((with_reducible refine gate_dst (N := 1) rfl ?_); (try (refine gate_guard (by rfl) ?_; dsimp only)); refine box_event ?hg (N := 1) ?hd (cs := #[.int .i64 a0_0, .int .i64 a0_1, .int .i64 a0_2, .slice A0_3 l0_3.length c0_3]) (t := 58) ?hr ?_; (case hd => rfl); (case hg => rfl); (case hr => first | (go_simp; done) | (go_simp; rfl)); intro aF hg w2 hbox hb; have n0_ := bs_ HB hb; have n1_ := mk_ (hbox); have n2_ := gx_ hg HB; have n3_ := gx_ hg HB; clear HB; have HB := n0_; have aC := n1_; have fQ := n2_; have fR := n3_; clear n0_ n1_ n2_ n3_; clear hb hbox hg))
 go_loopg [3] k (fun kq v3 w' => ∃ (aA : Int), v3 = .int .i64 aA ∧ Aside0 (rillmeterref22_Right.l0 kq aA a0_0 a0_1 a0_2 l0_3 = some r) ∧ Aside0 (kq ≤ k) ∧ Aside0 (w'.heap[aF]? = some (.cells #[.int .i64 a0_0, .int .i64 a0_1, .int .i64 a0_2, (.slice A0_3 l0_3.length c0_3)] 58 (0, 0))) ∧ Aside0 (Below w.heap.size w w'))
 case atStart => exact ⟨(0), (by first | rfl | (simp; done) | (simp [*]; done)), H', ⟨Nat.le_refl _⟩, ⟨bk_ aC⟩, ⟨bl_ HB⟩⟩
 case round =>
  clear H'; (try clear c2); (try clear p2); obtain ⟨aA, rfl, HA, HK1, aC, HB⟩ := hrel
  cases gk with
  | zero => exact absurd HA.out (by simp [rillmeterref22_Right.l0])
  | succ k1 =>
   have H := HA.out; clear HA; simp only [rillmeterref22_Right.l0] at H
   by_cases c3 : aA < (l0_3.length : Int)
   ·rw [if_pos c3] at H; have bF : decide (aA < (l0_3.length : Int)) = true := decide_eq_true c3; clear c3
    by_cases c4 : 0 ≤ aA
    ·rw [if_pos c4] at H; have bR : decide (0 ≤ aA) = true := decide_eq_true c4; clear c4; have HC5 := mk_ H; clear H; have bS : wr.cell? ⟨aF, 0, none⟩ = some (.int .i64 a0_0) := bc_ aC 0; have bT : wr.cell? ⟨aF, 1, none⟩ = some (.int .i64 a0_1) := bc_ aC 1; have bU : wr.cell? ⟨aF, 2, none⟩ = some (.int .i64 a0_2) := bc_ aC 2; have bV : wr.cell? ⟨aF, 3, none⟩ = some (.slice A0_3 l0_3.length c0_3) := bc_ aC 3; have bW := blk_frozen aC.out 0; have bX := blk_frozen aC.out 1; have bY := blk_frozen aC.out 2; have bZ := blk_frozen aC.out 3; have aV : 0 ≤ (aA : Int) := of_decide_eq_true (by first | (with_reducible assumption) | assumption); have aW : aA < (l0_3.length : Int) := of_decide_eq_true (by first | (with_reducible assumption) | assumption); obtain ⟨cA, A281_1, c281_1, e281, aX, aY, aZ, cB, hi281_1⟩ := at_T93 fF.out aA aV aW
     cases e281; (try replace aX := bt_ HB aX); (try replace aY := bt_ HB aY); (try replace aZ := bt_ HB aZ); have cC := mk_ hi281_1; have fS := mk_ cB; clear hi281_1 cB; replace aV := eq_true aV; replace aW := eq_true aW
     go_upto_if 20 with (first | ((with_reducible refine gate_dst (N := 4) rfl ?_); (try (refine gate_guard (by rfl) ?_; dsimp only)); refine box_event ?hg (N := 4) ?hd (cs := #[.int .i64 0, .slice none 0 0, .string (⟨#[]⟩ : ByteArray)]) (t := 93) ?hr ?_; (case hd => rfl); (case hg => rfl); (case hr => first | (go_simp; done) | (go_simp; rfl)); intro aD hg w7 hbox hb; have n0_ := bb_ aC hb; have n1_ := bs_ HB hb; have n2_ := mk_ (hbox); have n3_ := gx_ hg HB; have n4_ := gx_ hg HB; have n5_ := nx_ hg aC; have n6_ := ny_ hg aC; clear aC; clear HB; have aC := n0_; have HB := n1_; have aB := n2_; have fT := n3_; have fU := n4_; have aG := n5_; have aH := n6_; clear n0_ n1_ n2_ n3_ n4_ n5_ n6_; clear hb hbox hg; have fV := aH.out; have fW := aG.out; have cD : w7.cell? ⟨aD, 0, none⟩ = some (.int .i64 0) := bc_ aB 0; have cE : w7.cell? ⟨aD, 1, none⟩ = some (.slice none 0 0) := bc_ aB 1; have cF : w7.cell? ⟨aD, 2, none⟩ = some (.string (⟨#[]⟩ : ByteArray)) := bc_ aB 2; have cG := blk_frozen aB.out 0; have cH := blk_frozen aB.out 1; have cI := blk_frozen aB.out 2))
     (try simp only [Act.put, sa_, sb_, sc_])
     go_cut [] (fun wc => ∃ (kq : Nat), Aside0 (rillmeterref22_Right.j1 kq aA a0_0 a0_1 a0_2 l0_3 ((rd_T93 l0_3 aA).f0) ((rd_T93 l0_3 aA).f1) ((rd_T93 l0_3 aA).f2) = some r) ∧ Aside0 (kq ≤ k1) ∧ Aside0 (wc.heap[aF]? = some (.cells #[.int .i64 a0_0, .int .i64 a0_1, .int .i64 a0_2, (.slice (some cA) l0_3.length c0_3)] 58 (0, 0))) ∧ Aside0 (wc.heap[aD]? = some (.cells #[.int .i64 ((rd_T93 l0_3 aA).f0), (.slice A281_1 ((rd_T93 l0_3 aA).f1).length c281_1), .string ((rd_T93 l0_3 aA).f2)] 93 (0, 0))) ∧ Aside0 (Below w.heap.size w wc))
     case first =>
      have H := HC5.out; clear HC5
      by_cases aK : ((rd_T93 l0_3 aA).f0) = 2
      ·rw [if_pos aK] at H; have aN : (((rd_T93 l0_3 aA).f0) == 2) = true := beq_iff_eq.mpr aK; have bG : (((rd_T93 l0_3 aA).f0) != 2) = false := bne_eq_false_iff_eq.mpr aK; clear aK
       (first | rw [aN] | (simp only [i64_w, i32_w]; rw [aN]) | skip)
       by_cases aL : (((rd_T93 l0_3 aA).f2).size : Int) > 0
       ·rw [if_pos aL] at H; have bH : decide (0 < (((rd_T93 l0_3 aA).f2).size : Int)) = true := decide_eq_true aL; have bI : decide (0 < ((rd_T93 l0_3 aA).f2).size) = true := decide_eq_true (by omega); clear aL; obtain rfl := Option.some.inj H; have fX := aH.out; have fY := aG.out; have cJ : w7.cell? ⟨aD, 0, none⟩ = some (.int .i64 0) := bc_ aB 0; have cK : w7.cell? ⟨aD, 1, none⟩ = some (.slice none 0 0) := bc_ aB 1; have cL : w7.cell? ⟨aD, 2, none⟩ = some (.string (⟨#[]⟩ : ByteArray)) := bc_ aB 2; have cM := blk_frozen aB.out 0; have cN := blk_frozen aB.out 1; have cO := blk_frozen aB.out 2
        go_wp2
        go_ret; exact ⟨by first | rfl | (simp [errW_none, errW_some] <;> rfl) | (simp [*, errW_none, errW_some] <;> rfl), bl_ HB⟩
       ·rw [if_neg aL] at H; have bH : decide (0 < (((rd_T93 l0_3 aA).f2).size : Int)) = false := decide_eq_false aL; have bI : decide (0 < ((rd_T93 l0_3 aA).f2).size) = false := decide_eq_false (by omega); clear aL
        by_cases aI : (((rd_T93 l0_3 aA).f1).length : Int) = 0
        ·rw [if_pos aI] at H; have bJ : ((((rd_T93 l0_3 aA).f1).length : Int) == 0) = true := beq_iff_eq.mpr aI; have bK : ((((rd_T93 l0_3 aA).f1).length : Int) != 0) = false := bne_eq_false_iff_eq.mpr aI; clear aI; obtain rfl := Option.some.inj H; have fZ := aH.out; have gA := aG.out; have cP : w7.cell? ⟨aD, 0, none⟩ = some (.int .i64 0) := bc_ aB 0; have cQ : w7.cell? ⟨aD, 1, none⟩ = some (.slice none 0 0) := bc_ aB 1; have cR : w7.cell? ⟨aD, 2, none⟩ = some (.string (⟨#[]⟩ : ByteArray)) := bc_ aB 2; have cS := blk_frozen aB.out 0; have cT := blk_frozen aB.out 1; have cU := blk_frozen aB.out 2
         go_wp2
         go_ret; exact ⟨by first | rfl | (simp [errW_none, errW_some] <;> rfl) | (simp [*, errW_none, errW_some] <;> rfl), bl_ HB⟩
        ·rw [if_neg aI] at H; have bJ : ((((rd_T93 l0_3 aA).f1).length : Int) == 0) = false := beq_eq_false_iff_ne.mpr aI; have bK : ((((rd_T93 l0_3 aA).f1).length : Int) != 0) = true := bne_iff_ne.mpr aI
         have cV : ¬ (((rd_T93 l0_3 aA).f1) = []) := fun h_ => aI (by rw [h_]; rfl)
         have H' := mk_ H; clear H; have gB := aH.out; have gC := aG.out; have cW : w7.cell? ⟨aD, 0, none⟩ = some (.int .i64 0) := bc_ aB 0; have cX : w7.cell? ⟨aD, 1, none⟩ = some (.slice none 0 0) := bc_ aB 1; have cY : w7.cell? ⟨aD, 2, none⟩ = some (.string (⟨#[]⟩ : ByteArray)) := bc_ aB 2; have cZ := blk_frozen aB.out 0; have dA := blk_frozen aB.out 1; have dB := blk_frozen aB.out 2
         go_wp2
         go_meet
         case rel => exact ⟨_, H', ⟨by have := HK1.out; first | omega | exact Nat.le_refl _⟩, ⟨fb_⟩, ⟨by (with_reducible repeat (first | refine blk_drewN ?_ _ | refine blk_drew ?_ | refine blk_alloc ?_ _)); refine blk_put (cs := #[.int .i64 ((rd_T93 l0_3 aA).f0), .slice A281_1 ((rd_T93 l0_3 aA).f1).length c281_1, .string (⟨#[]⟩ : ByteArray)]) ?_ 2 _ rfl; (with_reducible repeat (first | refine blk_drewN ?_ _ | refine blk_drew ?_ | refine blk_alloc ?_ _)); refine blk_put (cs := #[.int .i64 ((rd_T93 l0_3 aA).f0), .slice none 0 0, .string (⟨#[]⟩ : ByteArray)]) ?_ 1 _ rfl; (with_reducible repeat (first | refine blk_drewN ?_ _ | refine blk_drew ?_ | refine blk_alloc ?_ _)); refine blk_put (cs := #[.int .i64 0, .slice none 0 0, .string (⟨#[]⟩ : ByteArray)]) ?_ 0 _ rfl; (with_reducible repeat (first | refine blk_drewN ?_ _ | refine blk_drew ?_ | refine blk_alloc ?_ _)); exact aB.out⟩, ⟨bl_ HB⟩⟩
      ·rw [if_neg aK] at H; have aN : (((rd_T93 l0_3 aA).f0) == 2) = false := beq_eq_false_iff_ne.mpr aK; have bG : (((rd_T93 l0_3 aA).f0) != 2) = true := bne_iff_ne.mpr aK
       (first | rw [aN] | (simp only [i64_w, i32_w]; rw [aN]) | skip)
       replace H := Option.bind_eq_some_iff.mp H; obtain ⟨dC, dD, H⟩ := H; replace H : (if dC = true then (if (((rd_T93 l0_3 aA).f1).length : Int) > 0 then (some false) else (rillmeterref22_Right.j1 k1 aA a0_0 a0_1 a0_2 l0_3 ((rd_T93 l0_3 aA).f0) ((rd_T93 l0_3 aA).f1) ((rd_T93 l0_3 aA).f2))) else (some false)) = some r := H; have bL := mk_ dD; clear dD
       by_cases aS : dC = true
       ·subst aS
        have H1 : (if (((rd_T93 l0_3 aA).f1).length : Int) > 0 then (some false) else (rillmeterref22_Right.j1 k1 aA a0_0 a0_1 a0_2 l0_3 ((rd_T93 l0_3 aA).f0) ((rd_T93 l0_3 aA).f1) ((rd_T93 l0_3 aA).f2))) = some r := by rw [if_pos rfl] at H; exact H
        clear H; have H := H1; clear H1
        by_cases aM : (((rd_T93 l0_3 aA).f1).length : Int) > 0
        ·rw [if_pos aM] at H; have bM : decide (0 < (((rd_T93 l0_3 aA).f1).length : Int)) = true := decide_eq_true aM; have bN : decide (0 < ((rd_T93 l0_3 aA).f1).length) = true := decide_eq_true (by omega); clear aM; obtain rfl := Option.some.inj H; have gD := aH.out; have gE := aG.out; have dE : w7.cell? ⟨aD, 0, none⟩ = some (.int .i64 0) := bc_ aB 0; have dF : w7.cell? ⟨aD, 1, none⟩ = some (.slice none 0 0) := bc_ aB 1; have dG : w7.cell? ⟨aD, 2, none⟩ = some (.string (⟨#[]⟩ : ByteArray)) := bc_ aB 2; have dH := blk_frozen aB.out 0; have dI := blk_frozen aB.out 1; have dJ := blk_frozen aB.out 2
         go_wp2_with (first | ((with_reducible refine gate_callee (f := 37) rfl ?_); refine goesL_ (some 33) rfl rfl Try.func37 (by kernel_rfl) rfl #[.int .i64 ((rd_T93 l0_3 aA).f0), .int .i64 256, .int .i64 65535] rfl (by (try simp only [List.map_toArray, List.map_cons, List.map_nil]); first | done | rfl | (simp only [List.length_drop, List.length_take]; rfl)) ?_; (with_reducible refine (rillmeterref22_in.calls ((rd_T93 l0_3 aA).f0) 256 65535 true _ bL.out).mono ?_); rintro e w' ⟨rfl, ⟨nd, rfl⟩⟩; refine ⟨_, rfl, ?_⟩))
         go_ret; exact ⟨by first | rfl | (simp [errW_none, errW_some] <;> rfl) | (simp [*, errW_none, errW_some] <;> rfl), bl_ HB⟩
        ·rw [if_neg aM] at H; have bM : decide (0 < (((rd_T93 l0_3 aA).f1).length : Int)) = false := decide_eq_false aM; have bN : decide (0 < ((rd_T93 l0_3 aA).f1).length) = false := decide_eq_false (by omega); clear aM; have H' := mk_ H; clear H; have gF := aH.out; have gG := aG.out; have dK : w7.cell? ⟨aD, 0, none⟩ = some (.int .i64 0) := bc_ aB 0; have dL : w7.cell? ⟨aD, 1, none⟩ = some (.slice none 0 0) := bc_ aB 1; have dM : w7.cell? ⟨aD, 2, none⟩ = some (.string (⟨#[]⟩ : ByteArray)) := bc_ aB 2; have dN := blk_frozen aB.out 0; have dO := blk_frozen aB.out 1; have dP := blk_frozen aB.out 2
         go_wp2_with (first | ((with_reducible refine gate_callee (f := 37) rfl ?_); refine goesL_ (some 33) rfl rfl Try.func37 (by kernel_rfl) rfl #[.int .i64 ((rd_T93 l0_3 aA).f0), .int .i64 256, .int .i64 65535] rfl (by (try simp only [List.map_toArray, List.map_cons, List.map_nil]); first | done | rfl | (simp only [List.length_drop, List.length_take]; rfl)) ?_; (with_reducible refine (rillmeterref22_in.calls ((rd_T93 l0_3 aA).f0) 256 65535 true _ bL.out).mono ?_); rintro e w' ⟨rfl, ⟨nd, rfl⟩⟩; refine ⟨_, rfl, ?_⟩))
         go_meet
         case rel => exact ⟨_, H', ⟨by have := HK1.out; first | omega | exact Nat.le_refl _⟩, ⟨fb_⟩, ⟨by (with_reducible repeat (first | refine blk_drewN ?_ _ | refine blk_drew ?_ | refine blk_alloc ?_ _)); refine blk_put (cs := #[.int .i64 ((rd_T93 l0_3 aA).f0), .slice A281_1 ((rd_T93 l0_3 aA).f1).length c281_1, .string (⟨#[]⟩ : ByteArray)]) ?_ 2 _ rfl; (with_reducible repeat (first | refine blk_drewN ?_ _ | refine blk_drew ?_ | refine blk_alloc ?_ _)); refine blk_put (cs := #[.int .i64 ((rd_T93 l0_3 aA).f0), .slice none 0 0, .string (⟨#[]⟩ : ByteArray)]) ?_ 1 _ rfl; (with_reducible repeat (first | refine blk_drewN ?_ _ | refine blk_drew ?_ | refine blk_alloc ?_ _)); refine blk_put (cs := #[.int .i64 0, .slice none 0 0, .string (⟨#[]⟩ : ByteArray)]) ?_ 0 _ rfl; (with_reducible repeat (first | refine blk_drewN ?_ _ | refine blk_drew ?_ | refine blk_alloc ?_ _)); exact aB.out⟩, ⟨bl_ HB⟩⟩
       ·replace aS := Bool.eq_false_iff.mpr aS; subst aS
        have H1 : (some false) = some r := by rw [if_neg (show ¬ (false = true) by decide)] at H; exact H
        clear H; have H := H1; clear H1; obtain rfl := Option.some.inj H; have gH := aH.out; have gI := aG.out; have dQ : w7.cell? ⟨aD, 0, none⟩ = some (.int .i64 0) := bc_ aB 0; have dR : w7.cell? ⟨aD, 1, none⟩ = some (.slice none 0 0) := bc_ aB 1; have dS : w7.cell? ⟨aD, 2, none⟩ = some (.string (⟨#[]⟩ : ByteArray)) := bc_ aB 2; have dT := blk_frozen aB.out 0; have dU := blk_frozen aB.out 1; have dV := blk_frozen aB.out 2
        go_wp2_with (first | ((with_reducible refine gate_callee (f := 37) rfl ?_); refine goesL_ (some 33) rfl rfl Try.func37 (by kernel_rfl) rfl #[.int .i64 ((rd_T93 l0_3 aA).f0), .int .i64 256, .int .i64 65535] rfl (by (try simp only [List.map_toArray, List.map_cons, List.map_nil]); first | done | rfl | (simp only [List.length_drop, List.length_take]; rfl)) ?_; (with_reducible refine (rillmeterref22_in.calls ((rd_T93 l0_3 aA).f0) 256 65535 false _ bL.out).mono ?_); rintro e w' ⟨rfl, ⟨nd, rfl⟩⟩; refine ⟨_, rfl, ?_⟩))
        go_ret; exact ⟨by first | rfl | (simp [errW_none, errW_some] <;> rfl) | (simp [*, errW_none, errW_some] <;> rfl), bl_ HB⟩
     case rest =>
      clear HC5; (try clear c1); (try clear c2); (try clear p2); (try clear q2); (try clear hx2); (try clear c3); (try clear bF); (try clear c4); (try clear bR); (try clear c8); (try clear aK); (try clear aN); (try clear bG); (try clear aL); (try clear bH); (try clear bI); (try clear fG); (try clear aI); (try clear bJ); (try clear bK); (try clear cV); (try clear fH); (try clear fI); (try clear aS); (try clear aM); (try clear bM); (try clear bN); (try clear fJ); (try clear fK); (try clear fL); (try clear cJ); (try clear cK); (try clear cL); (try clear cP); (try clear cQ); (try clear cR); (try clear cW); (try clear cX); (try clear cY); (try clear dE); (try clear dF); (try clear dG); (try clear dK); (try clear dL); (try clear dM); (try clear dQ); (try clear dR); (try clear dS); (try clear bS); (try clear bT); (try clear bU); (try clear bV); (try clear cD); (try clear cE); (try clear cF); (try clear cM); (try clear cN); (try clear cO); (try clear cS); (try clear cT); (try clear cU); (try clear cZ); (try clear dA); (try clear dB); (try clear dH); (try clear dI); (try clear dJ); (try clear dN); (try clear dO); (try clear dP); (try clear dT); (try clear dU); (try clear dV); (try clear bW); (try clear bX); (try clear bY)
      (try clear bZ); (try clear cG); (try clear cH); (try clear cI); (try clear aX); (try clear aY); (try clear aZ); (try clear p2); (try clear aV); (try clear aW); obtain ⟨kq, HA, HJ4, aC, aB, HB⟩ := hcut
      cases kq with
      | zero => exact absurd HA.out (by simp [rillmeterref22_Right.j1])
      | succ dW =>
       have H := HA.out; clear HA; simp only [rillmeterref22_Right.j1] at H; have H' := mk_ H; clear H
       go_wp2
       go_loopg [5] dW (fun kq v5 w' => ∃ (aE : Int), v5 = .int .i64 aE ∧ Aside0 (rillmeterref22_Right.l1 kq aA aE a0_0 a0_1 a0_2 l0_3 ((rd_T93 l0_3 aA).f0) ((rd_T93 l0_3 aA).f1) ((rd_T93 l0_3 aA).f2) = some r) ∧ Aside0 (kq ≤ dW) ∧ Aside0 (w'.heap[aF]? = some (.cells #[.int .i64 a0_0, .int .i64 a0_1, .int .i64 a0_2, (.slice (some cA) l0_3.length c0_3)] 58 (0, 0))) ∧ Aside0 (w'.heap[aD]? = some (.cells #[.int .i64 ((rd_T93 l0_3 aA).f0), (.slice A281_1 ((rd_T93 l0_3 aA).f1).length c281_1), .string ((rd_T93 l0_3 aA).f2)] 93 (0, 0))) ∧ Aside0 (Below w.heap.size w w'))
       case atStart => exact ⟨(0), (by first | rfl | (simp; done) | (simp [*]; done)), H', ⟨Nat.le_refl _⟩, ⟨bk_ aC⟩, ⟨bk_ aB⟩, ⟨bl_ HB⟩⟩
       case round =>
        clear H'; (try clear c1); (try clear c2); (try clear p2); (try clear q2); (try clear hx2); (try clear c3); (try clear bF); (try clear c4); (try clear bR); (try clear c8); (try clear aK); (try clear aN); (try clear bG); (try clear aL); (try clear bH); (try clear bI); (try clear fG); (try clear aI); (try clear bJ); (try clear bK); (try clear cV); (try clear fH); (try clear fI); (try clear aS); (try clear aM); (try clear bM); (try clear bN); (try clear fJ); (try clear fK); (try clear fL); (try clear cJ); (try clear cK); (try clear cL); (try clear cP); (try clear cQ); (try clear cR); (try clear cW); (try clear cX); (try clear cY); (try clear dE); (try clear dF); (try clear dG); (try clear dK); (try clear dL); (try clear dM); (try clear dQ); (try clear dR); (try clear dS); (try clear bS); (try clear bT); (try clear bU); (try clear bV); (try clear cD); (try clear cE); (try clear cF); (try clear cM); (try clear cN); (try clear cO); (try clear cS); (try clear cT); (try clear cU); (try clear cZ); (try clear dA); (try clear dB); (try clear dH); (try clear dI); (try clear dJ); (try clear dN); (try clear dO); (try clear dP); (try clear dT); (try clear dU); (try clear dV); (try clear bW); (try clear bX)
        (try clear bY); (try clear bZ); (try clear cG); (try clear cH); (try clear cI); (try clear aX); (try clear aY); (try clear aZ); (try clear p2); (try clear aV); (try clear q2); (try clear aW); obtain ⟨aE, rfl, HA, HK3, aC, aB, HB⟩ := hrel
        cases gk with
        | zero => exact absurd HA.out (by simp [rillmeterref22_Right.l1])
        | succ k3 =>
         have H := HA.out; clear HA; simp only [rillmeterref22_Right.l1] at H
         by_cases aT : aE < (((rd_T93 l0_3 aA).f1).length : Int)
         ·rw [if_pos aT] at H; have fM : decide (aE < (((rd_T93 l0_3 aA).f1).length : Int)) = true := decide_eq_true aT; clear aT
          by_cases bB : 0 ≤ aE
          ·rw [if_pos bB] at H; have gJ : decide (0 ≤ aE) = true := decide_eq_true bB; clear bB; replace H := Option.bind_eq_some_iff.mp H; obtain ⟨dX, dY, H⟩ := H; replace H : (if dX = true then (rillmeterref22_Right.l1 k3 aA (wrap64 (aE + 1)) a0_0 a0_1 a0_2 l0_3 ((rd_T93 l0_3 aA).f0) ((rd_T93 l0_3 aA).f1) ((rd_T93 l0_3 aA).f2)) else (some false)) = some r := H; have dZ := mk_ dY; clear dY
           by_cases bC : dX = true
           ·subst bC
            have H1 : (rillmeterref22_Right.l1 k3 aA (wrap64 (aE + 1)) a0_0 a0_1 a0_2 l0_3 ((rd_T93 l0_3 aA).f0) ((rd_T93 l0_3 aA).f1) ((rd_T93 l0_3 aA).f2)) = some r := by rw [if_pos rfl] at H; exact H
            clear H; have H := H1; clear H1; have H' := mk_ H; clear H; have gK := aH.out; have gL := aG.out; have gM : wr.cell? ⟨aD, 0, none⟩ = some (.int .i64 ((rd_T93 l0_3 aA).f0)) := bc_ aB 0; have gN : wr.cell? ⟨aD, 1, none⟩ = some (.slice A281_1 ((rd_T93 l0_3 aA).f1).length c281_1) := bc_ aB 1; have gO : wr.cell? ⟨aD, 2, none⟩ = some (.string ((rd_T93 l0_3 aA).f2)) := bc_ aB 2; have gP := blk_frozen aB.out 0; have gQ := blk_frozen aB.out 1; have gR := blk_frozen aB.out 2; have aO : 0 ≤ (aE : Int) := of_decide_eq_true (by first | (with_reducible assumption) | assumption); have aP : aE < (((rd_T93 l0_3 aA).f1).length : Int) := of_decide_eq_true (by first | (with_reducible assumption) | assumption); obtain ⟨fN, A284_1, c284_1, e284, aQ, aR, bA, hi284_1⟩ := at_T46 cC.out aE aO aP
            cases e284; (try replace aQ := bt_ HB aQ); (try replace aR := bt_ HB aR); have bO := mk_ hi284_1; have bP := mk_ bA; clear hi284_1 bA; replace aO := eq_true aO; replace aP := eq_true aP
            go_wp2_with (first | ((with_reducible refine gate_callee (f := 16) rfl ?_); refine goesL_ (some 53) rfl rfl Try.func16 (by kernel_rfl) rfl #[.agg #[.int .i64 ((rd_T46 ((rd_T93 l0_3 aA).f1) aE).f0), .slice A284_1 ((rd_T46 ((rd_T93 l0_3 aA).f1) aE).f1).length c284_1]] rfl (by (try simp only [List.map_toArray, List.map_cons, List.map_nil]); first | done | rfl | (simp only [List.length_drop, List.length_take]; rfl)) ?_; (with_reducible refine (rillmeterref22_Sound.calls k3 ((rd_T46 ((rd_T93 l0_3 aA).f1) aE).f0) _ _ ((rd_T46 ((rd_T93 l0_3 aA).f1) aE).f1) true _ ?side1 ?side2 dZ.out).mono ?_); (case side1 => repeat (first | exact (Kd.C_below bO.out HB.out) | (with_reducible refine Kd.C_alloc ?_ _) | (with_reducible refine Kd.C_drewN ?_ _) | (with_reducible refine Kd.C_drew ?_))); (case side2 => exact bP.out); rintro e gS ⟨rfl, hb⟩; refine ⟨_, rfl, ?_⟩; have n0_ := bb_ aC hb; have n1_ := bb_ aB hb; have n2_ := bs_ HB hb; clear aC; clear aB; clear HB; have aC := n0_; have aB := n1_; have HB := n2_; clear n0_ n1_ n2_; (try clear hb); (try clear hb2); (try clear hk); (try clear hi)))
            go_roundg k3
            case measure => have := HK1.out; have := HJ4.out; have := HK3.out; omega
            case rel => exact ⟨(wrap64 (aE + 1)), (by first | rfl | (simp; done) | (simp [*]; done)), H', ⟨by have := HK1.out; have := HJ4.out; have := HK3.out; omega⟩, ⟨bk_ aC⟩, ⟨bk_ aB⟩, ⟨bl_ HB⟩⟩
           ·replace bC := Bool.eq_false_iff.mpr bC; subst bC
            have H1 : (some false) = some r := by rw [if_neg (show ¬ (false = true) by decide)] at H; exact H
            clear H; have H := H1; clear H1; obtain rfl := Option.some.inj H; have gT := aH.out; have gU := aG.out; have gV : wr.cell? ⟨aD, 0, none⟩ = some (.int .i64 ((rd_T93 l0_3 aA).f0)) := bc_ aB 0; have gW : wr.cell? ⟨aD, 1, none⟩ = some (.slice A281_1 ((rd_T93 l0_3 aA).f1).length c281_1) := bc_ aB 1; have gX : wr.cell? ⟨aD, 2, none⟩ = some (.string ((rd_T93 l0_3 aA).f2)) := bc_ aB 2; have gY := blk_frozen aB.out 0; have gZ := blk_frozen aB.out 1; have hA := blk_frozen aB.out 2; have aO : 0 ≤ (aE : Int) := of_decide_eq_true (by first | (with_reducible assumption) | assumption); have aP : aE < (((rd_T93 l0_3 aA).f1).length : Int) := of_decide_eq_true (by first | (with_reducible assumption) | assumption); obtain ⟨fN, A284_1, c284_1, e284, aQ, aR, bA, hi284_1⟩ := at_T46 cC.out aE aO aP
            cases e284; (try replace aQ := bt_ HB aQ); (try replace aR := bt_ HB aR); have bO := mk_ hi284_1; have bP := mk_ bA; clear hi284_1 bA; replace aO := eq_true aO; replace aP := eq_true aP
            go_wp2_with (first | ((with_reducible refine gate_callee (f := 16) rfl ?_); refine goesL_ (some 53) rfl rfl Try.func16 (by kernel_rfl) rfl #[.agg #[.int .i64 ((rd_T46 ((rd_T93 l0_3 aA).f1) aE).f0), .slice A284_1 ((rd_T46 ((rd_T93 l0_3 aA).f1) aE).f1).length c284_1]] rfl (by (try simp only [List.map_toArray, List.map_cons, List.map_nil]); first | done | rfl | (simp only [List.length_drop, List.length_take]; rfl)) ?_; (with_reducible refine (rillmeterref22_Sound.calls k3 ((rd_T46 ((rd_T93 l0_3 aA).f1) aE).f0) _ _ ((rd_T46 ((rd_T93 l0_3 aA).f1) aE).f1) false _ ?side1 ?side2 dZ.out).mono ?_); (case side1 => repeat (first | exact (Kd.C_below bO.out HB.out) | (with_reducible refine Kd.C_alloc ?_ _) | (with_reducible refine Kd.C_drewN ?_ _) | (with_reducible refine Kd.C_drew ?_))); (case side2 => exact bP.out); rintro e hB ⟨rfl, hb⟩; refine ⟨_, rfl, ?_⟩; have n0_ := bb_ aC hb; have n1_ := bb_ aB hb; have n2_ := bs_ HB hb; clear aC; clear aB; clear HB; have aC := n0_; have aB := n1_; have HB := n2_; clear n0_ n1_ n2_; (try clear hb); (try clear hb2); (try clear hk); (try clear hi)))
            go_ret; exact ⟨by first | rfl | (simp [errW_none, errW_some] <;> rfl) | (simp [*, errW_none, errW_some] <;> rfl), bl_ HB⟩
          ·rw [if_neg bB] at H; exact absurd H (by simp)
         ·rw [if_neg aT] at H; have fM : decide (aE < (((rd_T93 l0_3 aA).f1).length : Int)) = false := decide_eq_false aT; clear aT; have H' := mk_ H; clear H; have hC := aH.out; have hD := aG.out; have hE : wr.cell? ⟨aD, 0, none⟩ = some (.int .i64 ((rd_T93 l0_3 aA).f0)) := bc_ aB 0; have hF : wr.cell? ⟨aD, 1, none⟩ = some (.slice A281_1 ((rd_T93 l0_3 aA).f1).length c281_1) := bc_ aB 1; have hG : wr.cell? ⟨aD, 2, none⟩ = some (.string ((rd_T93 l0_3 aA).f2)) := bc_ aB 2; have hH := blk_frozen aB.out 0; have hI := blk_frozen aB.out 1; have hJ := blk_frozen aB.out 2
          go_wp2
          go_roundg k3
          case measure => have := HK1.out; have := HJ4.out; have := HK3.out; omega
          case rel => exact ⟨(wrap64 (aA + 1)), (by first | rfl | (simp; done) | (simp [*]; done)), H', ⟨by have := HK1.out; have := HJ4.out; have := HK3.out; omega⟩, ⟨bk_ aC⟩, ⟨bl_ HB⟩⟩
    ·rw [if_neg c4] at H; exact absurd H (by simp)
   ·rw [if_neg c3] at H; have bF : decide (aA < (l0_3.length : Int)) = false := decide_eq_false c3; clear c3; replace H := Option.bind_eq_some_iff.mp H; obtain ⟨fA, fB, H⟩ := H; replace H : (if fA = true then ((rillmeterref22_in.f a0_1 0 4294967295).bind fun aU => (if aU = true then ((rillmeterref22_in.f a0_2 0 4294967295).bind fun aJ => (some aJ)) else (some false))) else (some false)) = some r := H; have bQ := mk_ fB; clear fB
    by_cases bD : fA = true
    ·subst bD
     have H1 : ((rillmeterref22_in.f a0_1 0 4294967295).bind fun aU => (if aU = true then ((rillmeterref22_in.f a0_2 0 4294967295).bind fun aJ => (some aJ)) else (some false))) = some r := by rw [if_pos rfl] at H; exact H
     clear H; have H := H1; clear H1; replace H := Option.bind_eq_some_iff.mp H; obtain ⟨aU, fC, H⟩ := H; replace H : (if aU = true then ((rillmeterref22_in.f a0_2 0 4294967295).bind fun aJ => (some aJ)) else (some false)) = some r := H; have fD := mk_ fC; clear fC
     by_cases bE : aU = true
     ·subst bE
      have H1 : ((rillmeterref22_in.f a0_2 0 4294967295).bind fun aJ => (some aJ)) = some r := by rw [if_pos rfl] at H; exact H
      clear H; have H := H1; clear H1; replace H := Option.bind_eq_some_iff.mp H; obtain ⟨aJ, fE, H⟩ := H; replace H : (some aJ) = some r := H; have fO := mk_ fE; clear fE; obtain rfl := Option.some.inj H; have hK : wr.cell? ⟨aF, 0, none⟩ = some (.int .i64 a0_0) := bc_ aC 0; have hL : wr.cell? ⟨aF, 1, none⟩ = some (.int .i64 a0_1) := bc_ aC 1; have hM : wr.cell? ⟨aF, 2, none⟩ = some (.int .i64 a0_2) := bc_ aC 2; have hN : wr.cell? ⟨aF, 3, none⟩ = some (.slice A0_3 l0_3.length c0_3) := bc_ aC 3; have hO := blk_frozen aC.out 0; have hP := blk_frozen aC.out 1; have hQ := blk_frozen aC.out 2; have hR := blk_frozen aC.out 3
      go_wp2_with (first | ((with_reducible refine gate_callee (f := 37) rfl ?_); refine goesL_ (some 57) rfl rfl Try.func37 (by kernel_rfl) rfl #[.int .i64 a0_0, .int .i64 0, .int .i64 4294967295] rfl (by (try simp only [List.map_toArray, List.map_cons, List.map_nil]); first | done | rfl | (simp only [List.length_drop, List.length_take]; rfl)) ?_; (with_reducible refine (rillmeterref22_in.calls a0_0 0 4294967295 true _ bQ.out).mono ?_); rintro e w' ⟨rfl, ⟨nd, rfl⟩⟩; refine ⟨_, rfl, ?_⟩) | (go_at_call 37; (with_reducible refine (rillmeterref22_in.calls a0_1 0 4294967295 true _ fD.out).mono ?_); rintro e w' ⟨rfl, ⟨nd, rfl⟩⟩) | (go_at_call 37; (with_reducible refine (rillmeterref22_in.calls a0_2 0 4294967295 aJ _ fO.out).mono ?_); rintro e w' ⟨rfl, ⟨nd, rfl⟩⟩))
      go_ret; exact ⟨by first | rfl | (simp [errW_none, errW_some] <;> rfl) | (simp [*, errW_none, errW_some] <;> rfl), bl_ HB⟩
     ·replace bE := Bool.eq_false_iff.mpr bE; subst bE
      have H1 : (some false) = some r := by rw [if_neg (show ¬ (false = true) by decide)] at H; exact H
      clear H; have H := H1; clear H1; obtain rfl := Option.some.inj H; have hS : wr.cell? ⟨aF, 0, none⟩ = some (.int .i64 a0_0) := bc_ aC 0; have hT : wr.cell? ⟨aF, 1, none⟩ = some (.int .i64 a0_1) := bc_ aC 1; have hU : wr.cell? ⟨aF, 2, none⟩ = some (.int .i64 a0_2) := bc_ aC 2; have hV : wr.cell? ⟨aF, 3, none⟩ = some (.slice A0_3 l0_3.length c0_3) := bc_ aC 3; have hW := blk_frozen aC.out 0; have hX := blk_frozen aC.out 1; have hY := blk_frozen aC.out 2; have hZ := blk_frozen aC.out 3
      go_wp2_with (first | ((with_reducible refine gate_callee (f := 37) rfl ?_); refine goesL_ (some 57) rfl rfl Try.func37 (by kernel_rfl) rfl #[.int .i64 a0_0, .int .i64 0, .int .i64 4294967295] rfl (by (try simp only [List.map_toArray, List.map_cons, List.map_nil]); first | done | rfl | (simp only [List.length_drop, List.length_take]; rfl)) ?_; (with_reducible refine (rillmeterref22_in.calls a0_0 0 4294967295 true _ bQ.out).mono ?_); rintro e w' ⟨rfl, ⟨nd, rfl⟩⟩; refine ⟨_, rfl, ?_⟩) | (go_at_call 37; (with_reducible refine (rillmeterref22_in.calls a0_1 0 4294967295 false _ fD.out).mono ?_); rintro e w' ⟨rfl, ⟨nd, rfl⟩⟩))
      go_ret; exact ⟨by first | rfl | (simp [errW_none, errW_some] <;> rfl) | (simp [*, errW_none, errW_some] <;> rfl), bl_ HB⟩
    ·replace bD := Bool.eq_false_iff.mpr bD; subst bD
     have H1 : (some false) = some r := by rw [if_neg (show ¬ (false = true) by decide)] at H; exact H
     clear H; have H := H1; clear H1; obtain rfl := Option.some.inj H; have iA : wr.cell? ⟨aF, 0, none⟩ = some (.int .i64 a0_0) := bc_ aC 0; have iB : wr.cell? ⟨aF, 1, none⟩ = some (.int .i64 a0_1) := bc_ aC 1; have iC : wr.cell? ⟨aF, 2, none⟩ = some (.int .i64 a0_2) := bc_ aC 2; have iD : wr.cell? ⟨aF, 3, none⟩ = some (.slice A0_3 l0_3.length c0_3) := bc_ aC 3; have iE := blk_frozen aC.out 0; have iF := blk_frozen aC.out 1; have iG := blk_frozen aC.out 2; have iH := blk_frozen aC.out 3
     go_wp2_with (first | ((with_reducible refine gate_callee (f := 37) rfl ?_); refine goesL_ (some 57) rfl rfl Try.func37 (by kernel_rfl) rfl #[.int .i64 a0_0, .int .i64 0, .int .i64 4294967295] rfl (by (try simp only [List.map_toArray, List.map_cons, List.map_nil]); first | done | rfl | (simp only [List.length_drop, List.length_take]; rfl)) ?_; (with_reducible refine (rillmeterref22_in.calls a0_0 0 4294967295 false _ bQ.out).mono ?_); rintro e w' ⟨rfl, ⟨nd, rfl⟩⟩; refine ⟨_, rfl, ?_⟩))
     go_ret; exact ⟨by first | rfl | (simp [errW_none, errW_some] <;> rfl) | (simp [*, errW_none, errW_some] <;> rfl), bl_ HB⟩

/-! ### rillmeterref04_power: function 59 -/
def rillmeterref04_power.l0 : Nat → Int → Int → Int → Option (Int)
  | 0, _, _, _ => none
  | k + 1, x0, x3, x4 => if x4 < x0 then (rillmeterref04_power.l0 k x0 (wrap64 (x3 * 256)) (wrap64 (x4 + 1))) else (some x3)
def rillmeterref04_power.f (k : Nat) (a0 : Int) : Option (Int) := rillmeterref04_power.l0 k a0 1 0
theorem rillmeterref04_power.mono_l : ∀ k, (∀ y0 y1 y2, LeO (rillmeterref04_power.l0 k y0 y1 y2) (rillmeterref04_power.l0 (k + 1) y0 y1 y2))
  | 0 => fun _ _ _ r h => by simp [rillmeterref04_power.l0] at h
  | k + 1 => by
    have ih0 := rillmeterref04_power.mono_l k
    · intro y0 y1 y2
      unfold rillmeterref04_power.l0
      repeat' first
      | (with_reducible exact ih0 _ _ _)
      | (with_reducible exact LeO.refl _)
      | (with_reducible exact LeO.none _)
      | (with_reducible refine LeO.ite ?_ ?_)
      | (with_reducible refine LeO.bind ?_ (fun _ => ?_))
      | exact ih0 _ _ _
      | exact LeO.none _
      | refine LeO.ite ?_ ?_
      | refine LeO.bind ?_ (fun _ => ?_)
theorem rillmeterref04_power.mono : ∀ a0 k, LeO (rillmeterref04_power.f k a0) (rillmeterref04_power.f (k + 1) a0) := by
  intro a0 k
  have ih0 := rillmeterref04_power.mono_l k
  unfold rillmeterref04_power.f
  repeat' first
      | (with_reducible exact ih0 _ _ _)
      | (with_reducible exact LeO.refl _)
      | (with_reducible exact LeO.none _)
      | (with_reducible refine LeO.ite ?_ ?_)
      | (with_reducible refine LeO.bind ?_ (fun _ => ?_))
      | exact ih0 _ _ _
      | exact LeO.none _
      | refine LeO.ite ?_ ?_
      | refine LeO.bind ?_ (fun _ => ?_)
set_option maxHeartbeats 80000000 in
set_option maxRecDepth 100000 in
theorem rillmeterref04_power.calls (k : Nat) (a0 : Int) (r : Int) (w : World) (h : rillmeterref04_power.f k a0 = some r) :
    Calls Try.prog 59 #[.int .i64 a0] w fun e w' => e = .returned (.int .i64 r) ∧ Drawn0 w w' := by
 have H : (rillmeterref04_power.l0 k a0 1 0) = some r := h; clear h; have H' := mk_ H; clear H
 go_enter Try.func59, Try.ntmps59
 go_wp2
 go_loopg [3, 4] k (fun kq v3 v4 w' => ∃ (aB : Int) (aA : Int), v3 = .int .i64 aB ∧ v4 = .int .i64 aA ∧ Aside0 (rillmeterref04_power.l0 kq a0 aB aA = some r) ∧ Aside0 (kq ≤ k) ∧ Drawn0 w w')
 case atStart => exact ⟨(1), (0), (by first | rfl | (simp; done) | (simp [*]; done)), (by first | rfl | (simp; done) | (simp [*]; done)), H', ⟨Nat.le_refl _⟩, by repeat (first | exact Drawn0.refl _ | apply Drawn0.step)⟩
 case round =>
  clear H'; obtain ⟨aB, aA, rfl, rfl, HA, HK1, ⟨m1, rfl⟩⟩ := hrel
  cases gk with
  | zero => exact absurd HA.out (by simp [rillmeterref04_power.l0])
  | succ k1 =>
   have H := HA.out; clear HA; simp only [rillmeterref04_power.l0] at H
   by_cases c2 : aA < a0
   ·rw [if_pos c2] at H; have aC : decide (aA < a0) = true := decide_eq_true c2; clear c2; have H' := mk_ H; clear H
    go_wp2
    go_roundg k1
    case measure => have := HK1.out; omega
    case rel => exact ⟨(wrap64 (aB * 256)), (wrap64 (aA + 1)), (by first | rfl | (simp; done) | (simp [*]; done)), (by first | rfl | (simp; done) | (simp [*]; done)), H', ⟨by have := HK1.out; omega⟩, by repeat (first | exact Drawn0.refl _ | apply Drawn0.step)⟩
   ·rw [if_neg c2] at H; have aC : decide (aA < a0) = false := decide_eq_false c2; clear c2; obtain rfl := Option.some.inj H
    go_wp2
    go_ret; exact ⟨by first | rfl | (simp; done) | (simp [*]; done), by repeat (first | exact Drawn0.refl _ | apply Drawn0.step)⟩

end Go.Proofs.Ytojmpdjbhplgkaa.PIpfixPuts
