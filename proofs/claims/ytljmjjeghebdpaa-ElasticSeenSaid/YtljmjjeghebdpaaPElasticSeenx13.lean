/- The functions that a law uses, each as a plain function, with the proof that a call of the Go function comes to its answer. Condition of each: the arguments read as the data that it names, and the plain function has an answer. Written by a program of this session (standin.py). -/
import Derived.Test.YtljmjjeghebdpaaPElasticSeenx0
import Derived.Test.YtljmjjeghebdpaaPElasticSeenx4
import Derived.Test.YtljmjjeghebdpaaPElasticSeenx10
import Derived.Test.YtljmjjeghebdpaaPElasticSeenx12
import Derived.Test.YtljmjjeghebdpaaShort
import Derived.Lib.SliceRun
import Derived.Test.YtljmjjeghebdpaaFuns
import Derived.Test.YtljmjjeghebdpaaPressMore
namespace Go.Proofs.Ytljmjjeghebdpaa.PElasticSeen
open Go.RowKit Go.Proofs.YtljmjjeghebdpaaW.PrintWords Go.Proofs.YtljmjjeghebdpaaW.PrintLast Go.Proofs.YtljmjjeghebdpaaW.PrintMore Go.Proofs.Ytljmjjeghebdpaa.Short Go.Proofs.Ytljmjjeghebdpaa.Press Go.Proofs.Ytljmjjeghebdpaa.PressMore
attribute [local go_sem] max2_int min2_int max_two min_two max_three min_three max_four min_four   -- for this text's walks alone
set_option linter.unusedVariables false
set_option linter.unusedSimpArgs false

/-! ### heavy_Item_59: function 59 -/
mutual
def heavy_Item_59.l0 : Nat → List (S68) → Int → Int → Int → Int → Option ((List (S68)))
  | 0, _, _, _, _, _ => none
  | k + 1, x0, x1, x6, x7, x8 => if x8 ≤ x1 then ((heavy_Item_76.f k x0 x7 x8).bind fun t315 => (heavy_Item_59.l0 k t315 x1 x6 x8 (wrap64 (x8 + x6)))) else ((heavy_Item_76.f k x0 x7 x1).bind fun t316 => (heavy_Item_59.l1 k t316 x1 x6))
def heavy_Item_59.l1 : Nat → List (S68) → Int → Int → Option ((List (S68)))
  | 0, _, _, _ => none
  | k + 1, x0, x1, x6 => if x6 < x1 then (heavy_Item_59.l2 k x0 x1 x6 0 (wrap64 (2 * x6))) else (some x0)
def heavy_Item_59.l2 : Nat → List (S68) → Int → Int → Int → Int → Option ((List (S68)))
  | 0, _, _, _, _, _ => none
  | k + 1, x0, x1, x6, x7, x8 => if x8 ≤ x1 then ((heavy_Item_77.f k x0 x7 (wrap64 (x7 + x6)) x8).bind fun t317 => (heavy_Item_59.l2 k t317 x1 x6 x8 (wrap64 (x8 + (wrap64 (2 * x6)))))) else (if (wrap64 (x7 + x6)) < x1 then ((heavy_Item_77.f k x0 x7 (wrap64 (x7 + x6)) x1).bind fun t318 => (heavy_Item_59.l1 k t318 x1 (wrap64 (x6 * 2)))) else (heavy_Item_59.l1 k x0 x1 (wrap64 (x6 * 2))))
end
def heavy_Item_59.f (k : Nat) (l0 : List (S68)) (a1 : Int) : Option ((List (S68))) := heavy_Item_59.l0 k l0 a1 20 0 20
theorem heavy_Item_59.mono_l : ∀ k, (∀ y0 y1 y2 y3 y4, LeO (heavy_Item_59.l0 k y0 y1 y2 y3 y4) (heavy_Item_59.l0 (k + 1) y0 y1 y2 y3 y4)) ∧ (∀ y0 y1 y2, LeO (heavy_Item_59.l1 k y0 y1 y2) (heavy_Item_59.l1 (k + 1) y0 y1 y2)) ∧ (∀ y0 y1 y2 y3 y4, LeO (heavy_Item_59.l2 k y0 y1 y2 y3 y4) (heavy_Item_59.l2 (k + 1) y0 y1 y2 y3 y4))
  | 0 => ⟨fun _ _ _ _ _ r h => by simp [heavy_Item_59.l0] at h, fun _ _ _ r h => by simp [heavy_Item_59.l1] at h, fun _ _ _ _ _ r h => by simp [heavy_Item_59.l2] at h⟩
  | k + 1 => by
    obtain ⟨ih0, ih1, ih2⟩ := heavy_Item_59.mono_l k
    refine ⟨?_, ?_, ?_⟩ <;> intros
    all_goals first | unfold heavy_Item_59.l0 | unfold heavy_Item_59.l1 | unfold heavy_Item_59.l2
    all_goals repeat' first | (with_reducible first | exact ih0 _ _ _ _ _ | exact ih1 _ _ _ | exact ih2 _ _ _ _ _ | exact heavy_Item_76.mono _ _ _ _ | exact heavy_Item_77.mono _ _ _ _ _ | exact LeO.refl _ | exact LeO.none _ | refine LeO.ite ?_ ?_ | refine LeO.bind ?_ (fun _ => ?_)) | exact ih0 _ _ _ _ _ | exact ih1 _ _ _ | exact ih2 _ _ _ _ _ | exact heavy_Item_76.mono _ _ _ _ | exact heavy_Item_77.mono _ _ _ _ _ | exact LeO.none _ | refine LeO.ite ?_ ?_ | refine LeO.bind ?_ (fun _ => ?_)
theorem heavy_Item_59.mono : ∀ a0 a1 k, LeO (heavy_Item_59.f k a0 a1) (heavy_Item_59.f (k + 1) a0 a1) := by
  intro a0 a1 k
  obtain ⟨ih0, ih1, ih2⟩ := heavy_Item_59.mono_l k
  unfold heavy_Item_59.f
  repeat' first | (with_reducible first | exact ih0 _ _ _ _ _ | exact ih1 _ _ _ | exact ih2 _ _ _ _ _ | exact heavy_Item_76.mono _ _ _ _ | exact heavy_Item_77.mono _ _ _ _ _ | exact LeO.refl _ | exact LeO.none _ | refine LeO.ite ?_ ?_ | refine LeO.bind ?_ (fun _ => ?_)) | exact ih0 _ _ _ _ _ | exact ih1 _ _ _ | exact ih2 _ _ _ _ _ | exact heavy_Item_76.mono _ _ _ _ | exact heavy_Item_77.mono _ _ _ _ _ | exact LeO.none _ | refine LeO.ite ?_ ?_ | refine LeO.bind ?_ (fun _ => ?_)
set_option maxHeartbeats 80000000 in
set_option maxRecDepth 100000 in
theorem heavy_Item_59.calls (k : Nat) (P0_ : Nat → Prop) (u9000_ : Value) (l0 : List (S68)) (a1 : Int) (r : List (S68)) (w0 w : World) (hB : Below w0.heap.size w0 w) (ho0 : Kd.R k68 68 w w0.heap.size P0_ u9000_ l0) (h : heavy_Item_59.f k l0 a1 = some r) :
    Calls Try.prog 59 #[u9000_, .int .i64 a1, .func (.func 35) #[] #[]] w fun e w' => e = .returned (.tuple #[]) ∧ Kd.R k68 68 w' w0.heap.size (fun k_ => (P0_ k_ ∨ w.heap.size ≤ k_)) u9000_ r ∧ Below w0.heap.size w0 w' ∧ Kept w w' (fun k_ => P0_ k_) := by
 have bJ := mk_ (show Kd.R k68 68 w w0.heap.size (fun k_ => (P0_ k_ ∨ w.heap.size ≤ k_)) u9000_ l0 from Kd.R_mono ho0 (fun k_ hk => (.inl hk))); have HK := mk_ (Kept.refl w (fun k_ => P0_ k_)); have HW0 := mk_ hB.size; have HB := mk_ hB; clear hB; have H : (heavy_Item_59.l0 k l0 a1 20 0 20) = some r := h; clear h; have H' := mk_ H; clear H
 go_enter Try.func59, Try.ntmps59
 go_wp2
 go_loopg [7, 8] k (fun kq v7 v8 w' => ∃ (aE : List (S68)) (aQ : Int) (aG : Int), v7 = .int .i64 aQ ∧ v8 = .int .i64 aG ∧ Aside0 (heavy_Item_59.l0 kq aE a1 20 aQ aG = some r) ∧ Aside0 (kq ≤ k) ∧ Aside0 (Kd.R k68 68 w' w0.heap.size (fun k_ => (P0_ k_ ∨ w.heap.size ≤ k_)) u9000_ aE) ∧ Aside0 (Kept w w' (fun k_ => P0_ k_)) ∧ Aside0 (Below w0.heap.size w0 w'))
 case atStart => exact ⟨(l0), (0), (20), (by first | rfl | (simp; done) | (simp [*]; done)), (by first | rfl | (simp; done) | (simp [*]; done)), H', ⟨Nat.le_refl _⟩, ⟨by (with_reducible repeat (first | apply Kd.R_alloc | apply Kd.R_drewN | apply Kd.R_drew)); exact bJ.out⟩, ⟨kp_ HK⟩, ⟨bl_ HB⟩⟩
 case round =>
  clear H'; obtain ⟨aE, aQ, aG, rfl, rfl, HA, HK1, aA, HK, HB⟩ := hrel
  cases gk with
  | zero => exact absurd HA.out (by simp [heavy_Item_59.l0])
  | succ k1 =>
   have H := HA.out; clear HA; simp only [heavy_Item_59.l0] at H
   by_cases c3 : aG ≤ a1
   ·rw [if_pos c3] at H; have aX : decide (aG ≤ a1) = true := decide_eq_true c3; clear c3; replace H := Option.bind_eq_some_iff.mp H; obtain ⟨aY, bE, H⟩ := H; replace H : (heavy_Item_59.l0 k1 aY a1 20 aG (wrap64 (aG + 20))) = some r := H; have A4 := mk_ bE; clear bE; have H' := mk_ H; clear H; obtain ⟨aZ, bA, eo5⟩ := Kd.R_slice aA.out; subst eo5
    go_wp2_with (first | ((with_reducible refine gate_callee (f := 76) rfl ?_); refine gs_ (some 18) Try.func76 #[.slice aZ aE.length bA, .int .i64 aQ, .int .i64 aG, .func (.func 35) #[] #[]] ?_; (with_reducible refine (heavy_Item_76.calls k1 (fun k_ => some k_ = (.slice aZ aE.length bA : Value).ownBlock) (.slice aZ aE.length bA) aE aQ aG aY w0 _ ?side1 ?side2 A4.out).mono ?_); (case side1 => exact bl_ HB); (case side2 => exact Kd.R_tight rfl aA.out); rintro e w6 ⟨rfl, hy0, hb, hkp⟩; refine ⟨_, rfl, ?_⟩; replace HK := mk_ (Kept.then_ (S := (fun k_ => P0_ k_)) (kp_ HK) hkp (fun k_ aR => (fun e_ => (aA.out.1 k_ e_.symm)) aR)); replace aA := mk_ (Kd.R_reok rfl hy0 (fun k_ e_ => aA.out.1 k_ e_)); replace HB := mk_ (hb); (try clear hb); (try clear hkp); (try clear hy0)))
    go_roundg k1
    case measure => have := HK1.out; omega
    case rel => exact ⟨(aY), (aG), (wrap64 (aG + 20)), (by first | rfl | (simp; done) | (simp [*]; done)), (by first | rfl | (simp; done) | (simp [*]; done)), H', ⟨by have := HK1.out; omega⟩, ⟨by (with_reducible repeat (first | apply Kd.R_alloc | apply Kd.R_drewN | apply Kd.R_drew)); exact aA.out⟩, ⟨kp_ HK⟩, ⟨bl_ HB⟩⟩
   ·rw [if_neg c3] at H; have aX : decide (aG ≤ a1) = false := decide_eq_false c3; clear c3; replace H := Option.bind_eq_some_iff.mp H; obtain ⟨bB, bF, H⟩ := H; replace H : (heavy_Item_59.l1 k1 bB a1 20) = some r := H; have A7 := mk_ bF; clear bF; have H' := mk_ H; clear H; obtain ⟨aJ, aK, eo8⟩ := Kd.R_slice aA.out; subst eo8
    go_wp2_with (first | ((with_reducible refine gate_callee (f := 76) rfl ?_); refine gs_ (some 27) Try.func76 #[.slice aJ aE.length aK, .int .i64 aQ, .int .i64 a1, .func (.func 35) #[] #[]] ?_; (with_reducible refine (heavy_Item_76.calls k1 (fun k_ => some k_ = (.slice aJ aE.length aK : Value).ownBlock) (.slice aJ aE.length aK) aE aQ a1 bB w0 _ ?side1 ?side2 A7.out).mono ?_); (case side1 => exact bl_ HB); (case side2 => exact Kd.R_tight rfl aA.out); rintro e w9 ⟨rfl, hy0, hb, hkp⟩; refine ⟨_, rfl, ?_⟩; replace HK := mk_ (Kept.then_ (S := (fun k_ => P0_ k_)) (kp_ HK) hkp (fun k_ aR => (fun e_ => (aA.out.1 k_ e_.symm)) aR)); replace aA := mk_ (Kd.R_reok rfl hy0 (fun k_ e_ => aA.out.1 k_ e_)); replace HB := mk_ (hb); (try clear hb); (try clear hkp); (try clear hy0)))
    (try simp only [Act.put, sa_, sb_, sc_])
    go_loopg [6] k1 (fun kq v6 w' => ∃ (aW : List (S68)) (aC : Int), v6 = .int .i64 aC ∧ Aside0 (heavy_Item_59.l1 kq aW a1 aC = some r) ∧ Aside0 (kq ≤ k1) ∧ Aside0 (Kd.R k68 68 w' w0.heap.size (fun k_ => (P0_ k_ ∨ w.heap.size ≤ k_)) (.slice aJ aE.length aK) aW) ∧ Aside0 (Kept w w' (fun k_ => P0_ k_)) ∧ Aside0 (Below w0.heap.size w0 w'))
    case atStart => exact ⟨(bB), (20), (by first | rfl | (simp; done) | (simp [*]; done)), H', ⟨Nat.le_refl _⟩, ⟨by (with_reducible repeat (first | apply Kd.R_alloc | apply Kd.R_drewN | apply Kd.R_drew)); exact aA.out⟩, ⟨kp_ HK⟩, ⟨bl_ HB⟩⟩
    case round =>
     clear H'; (try clear c3); (try clear aX); obtain ⟨aW, aC, rfl, HA, HK2, aA, HK, HB⟩ := hrel; have aM := (Kd.R_reads' aA.out).1; rw [aM] at aA; (try simp only [aM])
     cases gk with
     | zero => exact absurd HA.out (by simp [heavy_Item_59.l1])
     | succ k2 =>
      have H := HA.out; clear HA; simp only [heavy_Item_59.l1] at H
      by_cases aT : aC < a1
      ·rw [if_pos aT] at H; have bG : decide (aC < a1) = true := decide_eq_true aT; clear aT; have H' := mk_ H; clear H
       go_wp2
       go_loopg [7, 8] k2 (fun kq v7 v8 w' => ∃ (aH : List (S68)) (aD : Int) (aI : Int), v7 = .int .i64 aD ∧ v8 = .int .i64 aI ∧ Aside0 (heavy_Item_59.l2 kq aH a1 aC aD aI = some r) ∧ Aside0 (kq ≤ k2) ∧ Aside0 (Kd.R k68 68 w' w0.heap.size (fun k_ => (P0_ k_ ∨ w.heap.size ≤ k_)) (.slice aJ aW.length aK) aH) ∧ Aside0 (Kept w w' (fun k_ => P0_ k_)) ∧ Aside0 (Below w0.heap.size w0 w'))
       case atStart => exact ⟨(aW), (0), (wrap64 (2 * aC)), (by first | rfl | (simp; done) | (simp [*]; done)), (by first | rfl | (simp; done) | (simp [*]; done)), H', ⟨Nat.le_refl _⟩, ⟨by (try simp only [aM]); (with_reducible repeat (first | apply Kd.R_alloc | apply Kd.R_drewN | apply Kd.R_drew)); exact aA.out⟩, ⟨kp_ HK⟩, ⟨bl_ HB⟩⟩
       case round =>
        clear H'; (try clear c3); (try clear aX); (try clear aT); (try clear bG); obtain ⟨aH, aD, aI, rfl, rfl, HA, HK3, aA, HK, HB⟩ := hrel; have aN := (Kd.R_reads' aA.out).1; rw [aN] at aA; (try simp only [aN])
        cases gk with
        | zero => exact absurd HA.out (by simp [heavy_Item_59.l2])
        | succ k3 =>
         have H := HA.out; clear HA; simp only [heavy_Item_59.l2] at H
         by_cases aU : aI ≤ a1
         ·rw [if_pos aU] at H; have bK : decide (aI ≤ a1) = true := decide_eq_true aU; clear aU; replace H := Option.bind_eq_some_iff.mp H; obtain ⟨bC, bH, H⟩ := H; replace H : (heavy_Item_59.l2 k3 bC a1 aC aI (wrap64 (aI + (wrap64 (2 * aC))))) = some r := H; have bL := mk_ bH; clear bH; have H' := mk_ H; clear H
          go_wp2_with (first | ((with_reducible refine gate_callee (f := 77) rfl ?_); refine gs_ (some 43) Try.func77 #[.slice aJ aH.length aK, .int .i64 aD, .int .i64 (wrap64 (aD + aC)), .int .i64 aI, .func (.func 35) #[] #[]] ?_; (with_reducible refine (heavy_Item_77.calls k3 (fun k_ => some k_ = (.slice aJ aH.length aK : Value).ownBlock) (.slice aJ aH.length aK) aH aD (wrap64 (aD + aC)) aI bC w0 _ ?side1 ?side2 bL.out).mono ?_); (case side1 => exact bl_ HB); (case side2 => exact Kd.R_tight rfl aA.out); rintro e bO ⟨rfl, hy0, hb, hkp⟩; refine ⟨_, rfl, ?_⟩; replace HK := mk_ (Kept.then_ (S := (fun k_ => P0_ k_)) (kp_ HK) hkp (fun k_ aR => (fun e_ => (aA.out.1 k_ e_.symm)) aR)); replace aA := mk_ (Kd.R_reok rfl hy0 (fun k_ e_ => aA.out.1 k_ e_)); replace HB := mk_ (hb); (try clear hb); (try clear hkp); (try clear hy0)))
          (try simp only [← aN])
          go_roundg k3
          case measure => have := HK1.out; have := HK2.out; have := HK3.out; omega
          case rel => exact ⟨(bC), (aI), (wrap64 (aI + (wrap64 (2 * aC)))), (by first | rfl | (simp; done) | (simp [*]; done)), (by first | rfl | (simp; done) | (simp [*]; done)), H', ⟨by have := HK1.out; have := HK2.out; have := HK3.out; omega⟩, ⟨by (try simp only [aM]); (try simp only [aN]); (with_reducible repeat (first | apply Kd.R_alloc | apply Kd.R_drewN | apply Kd.R_drew)); exact aA.out⟩, ⟨kp_ HK⟩, ⟨bl_ HB⟩⟩
         ·rw [if_neg aU] at H; have bK : decide (aI ≤ a1) = false := decide_eq_false aU; clear aU
          by_cases aV : (wrap64 (aD + aC)) < a1
          ·rw [if_pos aV] at H; have bM : decide ((wrap64 (aD + aC)) < a1) = true := decide_eq_true aV; clear aV; replace H := Option.bind_eq_some_iff.mp H; obtain ⟨bD, bI, H⟩ := H; replace H : (heavy_Item_59.l1 k3 bD a1 (wrap64 (aC * 2))) = some r := H; have bN := mk_ bI; clear bI; have H' := mk_ H; clear H
           go_wp2_with (first | ((with_reducible refine gate_callee (f := 77) rfl ?_); refine gs_ (some 60) Try.func77 #[.slice aJ aH.length aK, .int .i64 aD, .int .i64 (wrap64 (aD + aC)), .int .i64 a1, .func (.func 35) #[] #[]] ?_; (with_reducible refine (heavy_Item_77.calls k3 (fun k_ => some k_ = (.slice aJ aH.length aK : Value).ownBlock) (.slice aJ aH.length aK) aH aD (wrap64 (aD + aC)) a1 bD w0 _ ?side1 ?side2 bN.out).mono ?_); (case side1 => exact bl_ HB); (case side2 => exact Kd.R_tight rfl aA.out); rintro e bP ⟨rfl, hy0, hb, hkp⟩; refine ⟨_, rfl, ?_⟩; replace HK := mk_ (Kept.then_ (S := (fun k_ => P0_ k_)) (kp_ HK) hkp (fun k_ aR => (fun e_ => (aA.out.1 k_ e_.symm)) aR)); replace aA := mk_ (Kd.R_reok rfl hy0 (fun k_ e_ => aA.out.1 k_ e_)); replace HB := mk_ (hb); (try clear hb); (try clear hkp); (try clear hy0)))
           (try simp only [← aM, ← aN])
           go_roundg k3
           case measure => have := HK1.out; have := HK2.out; have := HK3.out; omega
           case rel => exact ⟨(bD), (wrap64 (aC * 2)), (by first | rfl | (simp; done) | (simp [*]; done)), H', ⟨by have := HK1.out; have := HK2.out; have := HK3.out; omega⟩, ⟨by (try simp only [aM]); (try simp only [aN]); (with_reducible repeat (first | apply Kd.R_alloc | apply Kd.R_drewN | apply Kd.R_drew)); exact aA.out⟩, ⟨kp_ HK⟩, ⟨bl_ HB⟩⟩
          ·rw [if_neg aV] at H; have bM : decide ((wrap64 (aD + aC)) < a1) = false := decide_eq_false aV; clear aV; have H' := mk_ H; clear H
           go_wp2
           (try simp only [← aM, ← aN])
           go_roundg k3
           case measure => have := HK1.out; have := HK2.out; have := HK3.out; omega
           case rel => exact ⟨(aH), (wrap64 (aC * 2)), (by first | rfl | (simp; done) | (simp [*]; done)), H', ⟨by have := HK1.out; have := HK2.out; have := HK3.out; omega⟩, ⟨by (try simp only [aM]); (try simp only [aN]); (with_reducible repeat (first | apply Kd.R_alloc | apply Kd.R_drewN | apply Kd.R_drew)); exact aA.out⟩, ⟨kp_ HK⟩, ⟨bl_ HB⟩⟩
      ·rw [if_neg aT] at H; have bG : decide (aC < a1) = false := decide_eq_false aT; clear aT; obtain rfl := Option.some.inj H
       go_wp2
       first | go_end0 | ((try simp only [Exit.inBlock, Exit.then]); refine bodyPost_ret (results_none rfl _ _ _) rfl ?_)
       exact ⟨by first | rfl | (simp [*] <;> rfl), (by first | exact (rk_ aA) | (simp only [aM]; exact (rk_ aA))), bl_ HB, by repeat (first | (with_reducible first | exact HK.out | apply Kept.alloc | apply Kept.drewN | apply Kept.drew) | exact HK.out)⟩

/-! ### heavy_Item_34: function 34 -/
def heavy_Item_34.f (k : Nat) (l0 : List (S68)) : Option ((List (S68))) := (heavy_Item_59.f k l0 (l0.length : Int)).bind fun t319 => (some t319)
theorem heavy_Item_34.mono : ∀ a0 k, LeO (heavy_Item_34.f k a0) (heavy_Item_34.f (k + 1) a0) := by
  intro a0 k
  unfold heavy_Item_34.f
  repeat' first | (with_reducible first | exact heavy_Item_59.mono _ _ _ | exact LeO.refl _ | exact LeO.none _ | refine LeO.ite ?_ ?_ | refine LeO.bind ?_ (fun _ => ?_)) | exact heavy_Item_59.mono _ _ _ | exact LeO.none _ | refine LeO.ite ?_ ?_ | refine LeO.bind ?_ (fun _ => ?_)
set_option maxHeartbeats 80000000 in
set_option maxRecDepth 100000 in
theorem heavy_Item_34.calls (k : Nat) (P0_ : Nat → Prop) (u9000_ : Value) (l0 : List (S68)) (r : List (S68)) (w0 w : World) (hB : Below w0.heap.size w0 w) (ho0 : Kd.R k68 68 w w0.heap.size P0_ u9000_ l0) (h : heavy_Item_34.f k l0 = some r) :
    Calls Try.prog 34 #[u9000_, .func (.func 35) #[] #[]] w fun e w' => e = .returned (.tuple #[]) ∧ Kd.R k68 68 w' w0.heap.size (fun k_ => (P0_ k_ ∨ w.heap.size ≤ k_)) u9000_ r ∧ Below w0.heap.size w0 w' ∧ Kept w w' (fun k_ => P0_ k_) := by
 have aA := mk_ (show Kd.R k68 68 w w0.heap.size (fun k_ => (P0_ k_ ∨ w.heap.size ≤ k_)) u9000_ l0 from Kd.R_mono ho0 (fun k_ hk => (.inl hk))); have HK := mk_ (Kept.refl w (fun k_ => P0_ k_)); have HW0 := mk_ hB.size; have HB := mk_ hB; clear hB; have H : ((heavy_Item_59.f k l0 (l0.length : Int)).bind fun aC => (some aC)) = some r := h; clear h; replace H := Option.bind_eq_some_iff.mp H; obtain ⟨aC, aG, H⟩ := H; replace H : (some aC) = some r := H; have A2 := mk_ aG; clear aG; obtain rfl := Option.some.inj H; obtain ⟨aD, aE, eo3⟩ := Kd.R_slice aA.out; subst eo3
 go_enter Try.func34, Try.ntmps34
 go_wp2_with (first | ((with_reducible refine gate_callee (f := 59) rfl ?_); refine gs_ (some 8) Try.func59 #[.slice aD l0.length aE, .int .i64 (l0.length : Int), .func (.func 35) #[] #[]] ?_; (with_reducible refine (heavy_Item_59.calls k (fun k_ => some k_ = (.slice aD l0.length aE : Value).ownBlock) (.slice aD l0.length aE) l0 (l0.length : Int) aC w0 _ ?side1 ?side2 A2.out).mono ?_); (case side1 => exact bl_ HB); (case side2 => exact Kd.R_tight rfl aA.out); rintro e w4 ⟨rfl, hy0, hb, hkp⟩; refine ⟨_, rfl, ?_⟩; replace HK := mk_ (Kept.then_ (S := (fun k_ => P0_ k_)) (kp_ HK) hkp (fun k_ aH => (fun e_ => (aA.out.1 k_ e_.symm)) aH)); replace aA := mk_ (Kd.R_reok rfl hy0 (fun k_ e_ => aA.out.1 k_ e_)); replace HB := mk_ (hb); (try clear hb); (try clear hkp); (try clear hy0)))
 first | go_end0 | ((try simp only [Exit.inBlock, Exit.then]); refine bodyPost_ret (results_none rfl _ _ _) rfl ?_)
 exact ⟨by first | rfl | (simp [*] <;> rfl), by (with_reducible repeat (first | apply Kd.R_alloc | apply Kd.R_drewN | apply Kd.R_drew)); exact aA.out, bl_ HB, by repeat (first | (with_reducible first | exact HK.out | apply Kept.alloc | apply Kept.drewN | apply Kept.drew) | exact HK.out)⟩

/-! ### elastic_List: function 13 -/
mutual
def elastic_List.l0 : Nat → Int → List (S68) → List (S56) → Int → Int → Option ((List (S68)))
  | 0, _, _, _, _, _ => none
  | k + 1, x1, x5, x14, x15, x16 => if x16 < x15 then (if 0 ≤ x16 then (if x16 < (x14.length : Int) then (elastic_List.l1 k x1 x5 x14 x15 x16 ((rd_T56 x14 x16).f0) (((rd_T56 x14 x16).f0).length : Int) 0) else (none)) else (none)) else ((heavy_Item_34.f k x5).bind fun t322 => (some t322))
def elastic_List.l1 : Nat → Int → List (S68) → List (S56) → Int → Int → List (S76) → Int → Int → Option ((List (S68)))
  | 0, _, _, _, _, _, _, _, _ => none
  | k + 1, x1, x5, x14, x15, x16, x21, x22, x23 => if x23 < x22 then (if 0 ≤ x23 then (if x23 < (x21.length : Int) then (if ((rd_T76 x21 x23).f1) ≥ x1 then (if x5.length < 5864062014805 then (elastic_List.l1 k x1 (x5 ++ [(⟨(rd_T76 x21 x23).f0, (rd_T76 x21 x23).f1⟩ : S68)]) x14 x15 x16 x21 x22 (wrap64 (x23 + 1))) else (none)) else (elastic_List.l1 k x1 x5 x14 x15 x16 x21 x22 (wrap64 (x23 + 1)))) else (none)) else (none)) else (elastic_List.l0 k x1 x5 x14 x15 (wrap64 (x16 + 1)))
end
def elastic_List.f (k : Nat) (a0_0 : Int) (a0_1 : Int) (a0_2 : Int) (l0_3 : List (S56)) (a0_4 : Int) (a0_5 : Int) (l0_6 : List (List Int)) (a1 : Int) : Option ((List (S68))) := (elastic_Right.f k a0_0 a0_1 a0_2 l0_3 a0_4 a0_5 l0_6).bind fun t321 => (if t321 = true then (elastic_List.l0 k a1 ([] : List (S68)) l0_3 (l0_3.length : Int) 0) else (some ([] : List (S68))))
theorem elastic_List.mono_l : ∀ k, (∀ y0 y1 y2 y3 y4, LeO (elastic_List.l0 k y0 y1 y2 y3 y4) (elastic_List.l0 (k + 1) y0 y1 y2 y3 y4)) ∧ (∀ y0 y1 y2 y3 y4 y5 y6 y7, LeO (elastic_List.l1 k y0 y1 y2 y3 y4 y5 y6 y7) (elastic_List.l1 (k + 1) y0 y1 y2 y3 y4 y5 y6 y7))
  | 0 => ⟨fun _ _ _ _ _ r h => by simp [elastic_List.l0] at h, fun _ _ _ _ _ _ _ _ r h => by simp [elastic_List.l1] at h⟩
  | k + 1 => by
    obtain ⟨ih0, ih1⟩ := elastic_List.mono_l k
    refine ⟨?_, ?_⟩ <;> intros
    all_goals first | unfold elastic_List.l0 | unfold elastic_List.l1
    all_goals repeat' first | (with_reducible first | exact ih0 _ _ _ _ _ | exact ih1 _ _ _ _ _ _ _ _ | exact elastic_Right.mono _ _ _ _ _ _ _ _ | exact heavy_Item_34.mono _ _ | exact LeO.refl _ | exact LeO.none _ | refine LeO.ite ?_ ?_ | refine LeO.bind ?_ (fun _ => ?_)) | exact ih0 _ _ _ _ _ | exact ih1 _ _ _ _ _ _ _ _ | exact elastic_Right.mono _ _ _ _ _ _ _ _ | exact heavy_Item_34.mono _ _ | exact LeO.none _ | refine LeO.ite ?_ ?_ | refine LeO.bind ?_ (fun _ => ?_)
theorem elastic_List.mono : ∀ a0 a1 a2 a3 a4 a5 a6 a7 k, LeO (elastic_List.f k a0 a1 a2 a3 a4 a5 a6 a7) (elastic_List.f (k + 1) a0 a1 a2 a3 a4 a5 a6 a7) := by
  intro a0 a1 a2 a3 a4 a5 a6 a7 k
  obtain ⟨ih0, ih1⟩ := elastic_List.mono_l k
  unfold elastic_List.f
  repeat' first | (with_reducible first | exact ih0 _ _ _ _ _ | exact ih1 _ _ _ _ _ _ _ _ | exact elastic_Right.mono _ _ _ _ _ _ _ _ | exact heavy_Item_34.mono _ _ | exact LeO.refl _ | exact LeO.none _ | refine LeO.ite ?_ ?_ | refine LeO.bind ?_ (fun _ => ?_)) | exact ih0 _ _ _ _ _ | exact ih1 _ _ _ _ _ _ _ _ | exact elastic_Right.mono _ _ _ _ _ _ _ _ | exact heavy_Item_34.mono _ _ | exact LeO.none _ | refine LeO.ite ?_ ?_ | refine LeO.bind ?_ (fun _ => ?_)
set_option maxHeartbeats 80000000 in
set_option maxRecDepth 100000 in
theorem elastic_List.calls (k : Nat) (a0_0 : Int) (a0_1 : Int) (a0_2 : Int) (A0_3 : Option Addr) (c0_3 : Nat) (l0_3 : List (S56)) (a0_4 : Int) (a0_5 : Int) (A0_6 : Option Addr) (c0_6 : Nat) (l0_6 : List (List Int)) (a1 : Int) (r : List (S68)) (w : World) (hr0_3 : Kd.C k56 w A0_3 l0_3.length l0_3) (hc0_3 : l0_3.length ≤ c0_3) (hr0_6 : Kd.C (Kd.slice 3 (Kd.int .i64)) w A0_6 l0_6.length l0_6) (hc0_6 : l0_6.length ≤ c0_6) (h : elastic_List.f k a0_0 a0_1 a0_2 l0_3 a0_4 a0_5 l0_6 a1 = some r) :
    Calls Try.prog 13 #[.agg #[.int .u64 a0_0, .int .i64 a0_1, .int .i64 a0_2, .slice A0_3 l0_3.length c0_3, .int .u64 a0_4, .int .i64 a0_5, .slice A0_6 l0_6.length c0_6], .int .i64 a1] w fun e w' => ∃ v0_ : Value, e = .returned (v0_) ∧ Kd.R k68 68 w' w.heap.size (fun _ => True) v0_ r ∧ Below w.heap.size w w' := by
 have hu28 := Try.underlying28; have hu56 := Try.underlying56; have hu76 := Try.underlying76; have hu68 := Try.underlying68; have bL := mk_ hr0_3; have bT := mk_ hc0_3; clear hr0_3 hc0_3; have bU := mk_ hr0_6; have bV := mk_ hc0_6; clear hr0_6 hc0_6; have HB := mk_ (Below.refl w.heap.size w); have H : ((elastic_Right.f k a0_0 a0_1 a0_2 l0_3 a0_4 a0_5 l0_6).bind fun bD => (if bD = true then (elastic_List.l0 k a1 ([] : List (S68)) l0_3 (l0_3.length : Int) 0) else (some ([] : List (S68))))) = some r := h; clear h; replace H := Option.bind_eq_some_iff.mp H; obtain ⟨bD, bW, H⟩ := H; replace H : (if bD = true then (elastic_List.l0 k a1 ([] : List (S68)) l0_3 (l0_3.length : Int) 0) else (some ([] : List (S68)))) = some r := H; have A3 := mk_ bW; clear bW
 by_cases c4 : bD = true
 ·subst c4
  have H1 : (elastic_List.l0 k a1 ([] : List (S68)) l0_3 (l0_3.length : Int) 0) = some r := by rw [if_pos rfl] at H; exact H
  clear H; have H := H1; clear H1; have H' := mk_ H; clear H
  go_enter Try.func13, Try.ntmps13
  go_wp2_with (first | ((with_reducible refine gate_dst (N := 2) rfl ?_); refine box_event ?hg (N := 2) ?hd (cs := #[.int .u64 a0_0, .int .i64 a0_1, .int .i64 a0_2, .slice A0_3 l0_3.length c0_3, .int .u64 a0_4, .int .i64 a0_5, .slice A0_6 l0_6.length c0_6]) (t := 28) ?hr ?_; (case hd => rfl); (case hg => rfl); (case hr => first | (go_simp; done) | (go_simp; rfl)); intro aE hg w5 hbox hb; have aA := mk_ (hbox); have dI := gx_ hg HB; have bX := gx_ hg HB; replace HB := bs_ HB hb; clear hb hbox hg; obtain ⟨bY, bZ, cA, cB, cC, cD, cE⟩ := cz7_ aA; obtain ⟨cF, cG, cH, cI, cJ, cK, cL⟩ := fz7_ aA) | ((with_reducible refine gate_callee (f := 15) rfl ?_); refine gs_ (some 11) Try.func15 #[.agg #[.int .u64 a0_0, .int .i64 a0_1, .int .i64 a0_2, .slice A0_3 l0_3.length c0_3, .int .u64 a0_4, .int .i64 a0_5, .slice A0_6 l0_6.length c0_6]] ?_; (with_reducible refine (elastic_Right.calls k a0_0 a0_1 a0_2 _ _ l0_3 a0_4 a0_5 _ _ l0_6 true _ ?side1 ?side2 ?side3 ?side4 A3.out).mono ?_); (case side1 => exact ck_ (Kd.C_below bL.out HB.out)); (case side2 => exact bT.out); (case side3 => exact ck_ (Kd.C_below bU.out HB.out)); (case side4 => exact bV.out); rintro e w7 ⟨rfl, hb⟩; refine ⟨_, rfl, ?_⟩; replace aA := bb_ aA hb; replace HB := bs_ HB hb; (try clear hb); (try clear hk); obtain ⟨cM, cN, cO, cP, cQ, cR, cS⟩ := cz7_ aA; obtain ⟨cT, cU, cV, cW, cX, cY, cZ⟩ := fz7_ aA))
  (try simp only [Act.put, sa_, sb_, sc_])
  go_loopg [5, 16] k (fun kq v5 dJ w' => ∃ (aN : List (S68)) (aC : Int), dJ = .int .i64 aC ∧ Aside0 (elastic_List.l0 kq a1 aN l0_3 (l0_3.length : Int) aC = some r) ∧ Aside0 (kq ≤ k) ∧ Aside0 (Kd.R k68 68 w' w.heap.size (fun _ => True) v5 aN) ∧ Aside0 (w'.heap[aE]? = some (.cells #[.int .u64 a0_0, .int .i64 a0_1, .int .i64 a0_2, (.slice A0_3 l0_3.length c0_3), .int .u64 a0_4, .int .i64 a0_5, (.slice A0_6 l0_6.length c0_6)] 28 (0, 0))) ∧ Aside0 (Below w.heap.size w w'))
  case atStart => exact ⟨(([] : List (S68))), (0), (by first | rfl | (simp; done) | (simp [*]; done)), H', ⟨Nat.le_refl _⟩, ⟨by first | exact Kd.R_nil _ _ _ _ _ | exact Kd.N_nil _ _ _ _ _ | exact Kd.V_nil _ _ _ _ _ | exact Kd.Q_nil _ _ _ _ _ | exact Kd.S_nil _ _ _ _ _⟩, ⟨bk_ aA⟩, ⟨bl_ HB⟩⟩
  case round =>
   clear H'; (try clear c4); (try clear bY); (try clear bZ); (try clear cA); (try clear cB); (try clear cC); (try clear cD); (try clear cE); (try clear cM); (try clear cN); (try clear cO); (try clear cP); (try clear cQ); (try clear cR); (try clear cS); (try clear cF); (try clear cG); (try clear cH); (try clear cI); (try clear cJ); (try clear cK); (try clear cL); (try clear cT); (try clear cU); (try clear cV); (try clear cW); (try clear cX); (try clear cY); (try clear cZ); obtain ⟨aN, aC, rfl, HA, HK1, aG, aA, HB⟩ := hrel
   cases gk with
   | zero => exact absurd HA.out (by simp [elastic_List.l0])
   | succ k1 =>
    have H := HA.out; clear HA; simp only [elastic_List.l0] at H
    by_cases c9 : aC < (l0_3.length : Int)
    ·rw [if_pos c9] at H; have dA : decide (aC < (l0_3.length : Int)) = true := decide_eq_true c9; clear c9
     by_cases bB : 0 ≤ aC
     ·rw [if_pos bB] at H; have dK : decide (0 ≤ aC) = true := decide_eq_true bB; clear bB
      by_cases bC : aC < (l0_3.length : Int)
      ·rw [if_pos bC] at H; have dL : decide (aC < (l0_3.length : Int)) = true := decide_eq_true bC; clear bC; have H' := mk_ H; clear H; have bE : 0 ≤ (aC : Int) := od_; have bF : aC < (l0_3.length : Int) := od_; obtain ⟨dB, A323_0, c323_0, e323, bG, bH, dC, hi323_0⟩ := at_T56 bL.out aC bE bF
       cases e323; (try replace bG := bt_ HB bG); (try replace bH := bt_ HB bH); have dD := mk_ hi323_0; have fB := mk_ dC; clear hi323_0 dC; replace bE := eq_true bE; replace bF := eq_true bF
       go_wp2_with (first | ((with_reducible refine gate_dst (N := 7) rfl ?_); refine box_event ?hg (N := 7) ?hd (cs := #[.slice none 0 0, .int .i64 0]) (t := 56) ?hr ?_; (case hd => rfl); (case hg => rfl); (case hr => first | (go_simp; done) | (go_simp; rfl)); intro aY hg dE hbox hb; replace aG := mk_ (Kd.R_below (rk_ aG) hb); have aH := mk_ (hbox); have fC := gx_ hg HB; have fD := gx_ hg HB; replace HB := bs_ HB hb; have bM := nx_ hg aA; have dM := ny_ hg aA; replace aA := bb_ aA hb; clear hb hbox hg; have fE := dM.out; have fF := bM.out; obtain ⟨dN, dO⟩ := cz2_ aH; obtain ⟨dP, dQ⟩ := fz2_ aH))
       (try simp only [Act.put, sa_, sb_, sc_])
       go_loopg [5, 23] k1 (fun kq v5 dR w' => ∃ (aQ : List (S68)) (aD : Int), dR = .int .i64 aD ∧ Aside0 (elastic_List.l1 kq a1 aQ l0_3 (l0_3.length : Int) aC ((rd_T56 l0_3 aC).f0) (((rd_T56 l0_3 aC).f0).length : Int) aD = some r) ∧ Aside0 (kq ≤ k1) ∧ Aside0 (Kd.R k68 68 w' w.heap.size (fun _ => True) v5 aQ) ∧ Aside0 (w'.heap[aE]? = some (.cells #[.int .u64 a0_0, .int .i64 a0_1, .int .i64 a0_2, (.slice (some dB) l0_3.length c0_3), .int .u64 a0_4, .int .i64 a0_5, (.slice A0_6 l0_6.length c0_6)] 28 (0, 0))) ∧ Aside0 (w'.heap[aY]? = some (.cells #[(.slice A323_0 ((rd_T56 l0_3 aC).f0).length c323_0), .int .i64 ((rd_T56 l0_3 aC).f1)] 56 (0, 0))) ∧ Aside0 (Below w.heap.size w w'))
       case atStart => exact ⟨(aN), (0), (by first | rfl | (simp; done) | (simp [*]; done)), H', ⟨Nat.le_refl _⟩, ⟨by (with_reducible repeat (first | apply Kd.R_alloc | apply Kd.R_drewN | apply Kd.R_drew)); exact Kd.R_mono (Kd.R_far (p := ⟨aY, 1, none⟩) (Kd.R_far (p := ⟨aY, 0, none⟩) (Kd.R_types aG.out aH.out (by decide)) (fun _ hk => hk.2) (.slice A323_0 ((rd_T56 l0_3 aC).f0).length c323_0)) (fun _ hk => hk.2) (.int .i64 ((rd_T56 l0_3 aC).f1))) (fun _ hk => trivial)⟩, ⟨fb_⟩, ⟨pt_ aH⟩, ⟨bl_ HB⟩⟩
       case round =>
        clear H'; (try clear c4); (try clear c9); (try clear dA); (try clear bB); (try clear dK); (try clear bC); (try clear dL); (try clear dN); (try clear dO); (try clear bY); (try clear bZ); (try clear cA); (try clear cB); (try clear cC); (try clear cD); (try clear cE); (try clear cM); (try clear cN); (try clear cO); (try clear cP); (try clear cQ); (try clear cR); (try clear cS); (try clear dP); (try clear dQ); (try clear cF); (try clear cG); (try clear cH); (try clear cI); (try clear cJ); (try clear cK); (try clear cL); (try clear cT); (try clear cU); (try clear cV); (try clear cW); (try clear cX); (try clear cY); (try clear cZ); (try clear bG); (try clear bH); (try clear bE); (try clear bF); obtain ⟨aQ, aD, rfl, HA, HK2, aG, aA, aH, HB⟩ := hrel
        cases gk with
        | zero => exact absurd HA.out (by simp [elastic_List.l1])
        | succ k2 =>
         have H := HA.out; clear HA; simp only [elastic_List.l1] at H
         by_cases aZ : aD < (((rd_T56 l0_3 aC).f0).length : Int)
         ·rw [if_pos aZ] at H; have dS : decide (aD < (((rd_T56 l0_3 aC).f0).length : Int)) = true := decide_eq_true aZ; clear aZ
          by_cases bI : 0 ≤ aD
          ·rw [if_pos bI] at H; have fH : decide (0 ≤ aD) = true := decide_eq_true bI; clear bI
           by_cases bJ : aD < (((rd_T56 l0_3 aC).f0).length : Int)
           ·rw [if_pos bJ] at H; have fI : decide (aD < (((rd_T56 l0_3 aC).f0).length : Int)) = true := decide_eq_true bJ; clear bJ
            by_cases bA : ((rd_T76 ((rd_T56 l0_3 aC).f0) aD).f1) ≥ a1
            ·rw [if_pos bA] at H; have dT : decide (a1 ≤ ((rd_T76 ((rd_T56 l0_3 aC).f0) aD).f1)) = true := decide_eq_true bA; clear bA
             by_cases bK : aQ.length < 5864062014805
             ·rw [if_pos bK] at H; have dU := mk_ bK; clear bK; obtain ⟨y327, hy327⟩ : ∃ y_ : List (S68), y_ = (aQ ++ [(⟨(rd_T76 ((rd_T56 l0_3 aC).f0) aD).f0, (rd_T76 ((rd_T56 l0_3 aC).f0) aD).f1⟩ : S68)]) := ⟨_, rfl⟩
              replace H : (elastic_List.l1 k2 a1 y327 l0_3 (l0_3.length : Int) aC ((rd_T56 l0_3 aC).f0) (((rd_T56 l0_3 aC).f0).length : Int) (wrap64 (aD + 1))) = some r := by first | (rw [hy327]; with_reducible exact H) | (have H2_ := (Option.bind_some _ _).symm.trans H; rw [hy327]; with_reducible exact H2_) | (have H2_ := (Option.bind_some _ _).symm.trans H; with_reducible exact H2_) | with_reducible exact H | (rw [hy327]; exact H) | exact H
              have dV := mk_ hy327; clear hy327; have H' := mk_ H; clear H; have aR : 0 ≤ (aD : Int) := od_; have aT : aD < (((rd_T56 l0_3 aC).f0).length : Int) := od_; obtain ⟨dF, e325, aU, aV, aW⟩ := at_T76 dD.out aD aR aT
              cases e325; (try replace aU := bt_ HB aU); (try replace aV := bt_ HB aV); (try replace aW := bt_ HB aW); replace aR := eq_true aR; replace aT := eq_true aT
              go_wp2_with (first | ((with_reducible refine gate_dst (N := 9) rfl ?_); refine box_event ?hg (N := 9) ?hd (cs := #[.string (⟨#[]⟩ : ByteArray), .int .i64 0, .bool false]) (t := 76) ?hr ?_; (case hd => rfl); (case hg => rfl); (case hr => first | (go_simp; done) | (go_simp; rfl)); intro aJ hg bN hbox hb; replace aG := mk_ (Kd.R_below (rk_ aG) hb); have aI := mk_ (hbox); have dW := gx_ hg HB; have dX := gx_ hg HB; replace HB := bs_ HB hb; have aK := nx_ hg aA; have bO := ny_ hg aA; replace aA := bb_ aA hb; have aM := nx_ hg aH; have bP := ny_ hg aH; replace aH := bb_ aH hb; clear hb hbox hg; have fJ := bO.out; have fK := aK.out; have fL := bP.out; have fM := aM.out; obtain ⟨fN, fO, fP⟩ := cz3_ aI; obtain ⟨fQ, fR, fS⟩ := fz3_ aI) | ((with_reducible refine gate_builtin (b := .append) (xs := #[.tmp 31, .tmp 37]) rfl ?_); at_builtin; refine Kd.R_append k68 (w0 := w) w.heap.size rfl (.tmp 31) (.tmp 37) 41 68 (.agg #[(.string ⟨#[]⟩), (.int .i64 0)]) 24 rfl Try.underlying41 info68 rfl (by decide) (by omega) u5 aQ (⟨(rd_T76 ((rd_T56 l0_3 aC).f0) aD).f0, (rd_T76 ((rd_T56 l0_3 aC).f0) aD).f1⟩ : S68) [.string ((rd_T76 ((rd_T56 l0_3 aC).f0) aD).f0), .int .i64 ((rd_T76 ((rd_T56 l0_3 aC).f0) aD).f1)] (fun _ => True) (fun _ => False) rfl (by first | (go_simp; done) | (go_simp; rfl)) ?aP (fun _ hk => hk.elim) ?aF ?aO ?aB ?aS ?aL ?_; (case aP => exact k68_mkM _ _ _ (⟨(rd_T76 ((rd_T56 l0_3 aC).f0) aD).f0, (rd_T76 ((rd_T56 l0_3 aC).f0) aD).f1⟩ : S68)); (case aB => exact (bl_ HB)); (case aF => exact (fun _ _ => trivial)); (case aO => exact (by (with_reducible repeat (first | apply Kd.R_alloc | apply Kd.R_drewN | apply Kd.R_drew)); exact Kd.R_mono (Kd.R_far (p := ⟨aJ, 2, none⟩) (Kd.R_far (p := ⟨aJ, 1, none⟩) (Kd.R_far (p := ⟨aJ, 0, none⟩) (Kd.R_types aG.out aI.out (by decide)) (fun _ hk => hk.2) (.string ((rd_T76 ((rd_T56 l0_3 aC).f0) aD).f0))) (fun _ hk => hk.2) (.int .i64 ((rd_T76 ((rd_T56 l0_3 aC).f0) aD).f1))) (fun _ hk => hk.2) (.bool ((rd_T76 ((rd_T56 l0_3 aC).f0) aD).f2))) (fun _ hk => trivial))); (case aS => exact (below_size (bl_ HB))); (case aL => have := dU.out; omega); intro fT fU ho hb hg hat; rw [← dV.out] at ho; replace aA := mk_ (blk_grown (g := aE) (o := .cells #[.int .u64 a0_0, .int .i64 a0_1, .int .i64 a0_2, .slice (some dB) l0_3.length c0_3, .int .u64 a0_4, .int .i64 a0_5, .slice A0_6 l0_6.length c0_6] 28 (0, 0)) fb_ hg (Kd.R_ne aG.out aA.out (by decide))); replace aH := mk_ (blk_grown (g := aY) (o := .cells #[.slice (some dF) ((rd_T56 l0_3 aC).f0).length c323_0, .int .i64 ((rd_T56 l0_3 aC).f1)] 56 (0, 0)) fb_ hg (Kd.R_ne aG.out aH.out (by decide))); replace aI := mk_ (blk_grown (g := aJ) (o := .cells #[.string ((rd_T76 ((rd_T56 l0_3 aC).f0) aD).f0), .int .i64 ((rd_T76 ((rd_T56 l0_3 aC).f0) aD).f1), .bool ((rd_T76 ((rd_T56 l0_3 aC).f0) aD).f2)] 76 (0, 0)) (pt_ aI) hg (Kd.R_ne aG.out aI.out (by decide))); replace HB := mk_ (hb); have dY := mk_ (ho); clear aG; clear ho hb hg hat))
              go_roundg k2
              case measure => have := HK1.out; have := HK2.out; omega
              case rel => exact ⟨(y327), (wrap64 (aD + 1)), (by first | rfl | (simp; done) | (simp [*]; done)), H', ⟨by have := HK1.out; have := HK2.out; omega⟩, ⟨by (with_reducible repeat (first | apply Kd.R_alloc | apply Kd.R_drewN | apply Kd.R_drew)); exact dY.out⟩, ⟨bk_ aA⟩, ⟨bk_ aH⟩, ⟨bl_ HB⟩⟩
             ·rw [if_neg bK] at H; exact absurd H (by simp)
            ·rw [if_neg bA] at H; have dT : decide (a1 ≤ ((rd_T76 ((rd_T56 l0_3 aC).f0) aD).f1)) = false := decide_eq_false bA; clear bA; have H' := mk_ H; clear H; have aR : 0 ≤ (aD : Int) := od_; have aT : aD < (((rd_T56 l0_3 aC).f0).length : Int) := od_; obtain ⟨dF, e325, aU, aV, aW⟩ := at_T76 dD.out aD aR aT
             cases e325; (try replace aU := bt_ HB aU); (try replace aV := bt_ HB aV); (try replace aW := bt_ HB aW); replace aR := eq_true aR; replace aT := eq_true aT
             go_wp2_with (first | ((with_reducible refine gate_dst (N := 9) rfl ?_); refine box_event ?hg (N := 9) ?hd (cs := #[.string (⟨#[]⟩ : ByteArray), .int .i64 0, .bool false]) (t := 76) ?hr ?_; (case hd => rfl); (case hg => rfl); (case hr => first | (go_simp; done) | (go_simp; rfl)); intro aJ hg bQ hbox hb; replace aG := mk_ (Kd.R_below (rk_ aG) hb); have aI := mk_ (hbox); have dW := gx_ hg HB; have dX := gx_ hg HB; replace HB := bs_ HB hb; have aK := nx_ hg aA; have bO := ny_ hg aA; replace aA := bb_ aA hb; have aM := nx_ hg aH; have bP := ny_ hg aH; replace aH := bb_ aH hb; clear hb hbox hg; have fV := bO.out; have fW := aK.out; have fX := bP.out; have fY := aM.out; obtain ⟨fZ, gA, gB⟩ := cz3_ aI; obtain ⟨gC, gD, gE⟩ := fz3_ aI))
             go_roundg k2
             case measure => have := HK1.out; have := HK2.out; omega
             case rel => exact ⟨(aQ), (wrap64 (aD + 1)), (by first | rfl | (simp; done) | (simp [*]; done)), H', ⟨by have := HK1.out; have := HK2.out; omega⟩, ⟨by (with_reducible repeat (first | apply Kd.R_alloc | apply Kd.R_drewN | apply Kd.R_drew)); exact Kd.R_mono (Kd.R_far (p := ⟨aJ, 2, none⟩) (Kd.R_far (p := ⟨aJ, 1, none⟩) (Kd.R_far (p := ⟨aJ, 0, none⟩) (Kd.R_types aG.out aI.out (by decide)) (fun _ hk => hk.2) (.string ((rd_T76 ((rd_T56 l0_3 aC).f0) aD).f0))) (fun _ hk => hk.2) (.int .i64 ((rd_T76 ((rd_T56 l0_3 aC).f0) aD).f1))) (fun _ hk => hk.2) (.bool ((rd_T76 ((rd_T56 l0_3 aC).f0) aD).f2))) (fun _ hk => trivial)⟩, ⟨fb_⟩, ⟨fb_⟩, ⟨bl_ HB⟩⟩
           ·rw [if_neg bJ] at H; exact absurd H (by simp)
          ·rw [if_neg bI] at H; exact absurd H (by simp)
         ·rw [if_neg aZ] at H; have dS : decide (aD < (((rd_T56 l0_3 aC).f0).length : Int)) = false := decide_eq_false aZ; clear aZ; have H' := mk_ H; clear H
          go_wp2
          go_roundg k2
          case measure => have := HK1.out; have := HK2.out; omega
          case rel => exact ⟨(aQ), (wrap64 (aC + 1)), (by first | rfl | (simp; done) | (simp [*]; done)), H', ⟨by have := HK1.out; have := HK2.out; omega⟩, ⟨by (with_reducible repeat (first | apply Kd.R_alloc | apply Kd.R_drewN | apply Kd.R_drew)); exact aG.out⟩, ⟨bk_ aA⟩, ⟨bl_ HB⟩⟩
      ·rw [if_neg bC] at H; exact absurd H (by simp)
     ·rw [if_neg bB] at H; exact absurd H (by simp)
    ·rw [if_neg c9] at H; have dA : decide (aC < (l0_3.length : Int)) = false := decide_eq_false c9; clear c9; replace H := Option.bind_eq_some_iff.mp H; obtain ⟨dG, dH, H⟩ := H; replace H : (some dG) = some r := H; have dZ := mk_ dH; clear dH; obtain rfl := Option.some.inj H; obtain ⟨bR, bS, eo30⟩ := Kd.R_slice aG.out; subst eo30
     go_wp2_with (first | ((with_reducible refine gate_callee (f := 34) rfl ?_); refine gs_ (some 42) Try.func34 #[.slice bR aN.length bS, .func (.func 35) #[] #[]] ?_; (with_reducible refine (heavy_Item_34.calls k1 (fun k_ => some k_ = (.slice bR aN.length bS : Value).ownBlock) (.slice bR aN.length bS) aN dG w _ ?side1 ?side2 dZ.out).mono ?_); (case side1 => repeat (first | (with_reducible first | exact HB.out | apply below_alloc | apply pw_below_drewN | apply below_drew1 | refine below_set ?_ bX.out) | exact HB.out)); (case side2 => exact Kd.R_tight rfl aG.out); rintro e gF ⟨rfl, hy0, hb, hkp⟩; refine ⟨_, rfl, ?_⟩; replace aA := mk_ (blk_kept (bk_ aA) hkp (fun fA => (fun e_ => (Kd.R_ne aG.out aA.out (by decide)) e_) fA)); replace aG := mk_ (Kd.R_reok rfl hy0 (fun k_ e_ => aG.out.1 k_ e_)); replace HB := mk_ (hb); (try clear hb); (try clear hkp); (try clear hy0)))
     go_ret; exact ⟨_, by first | rfl | (simp [*] <;> rfl), by (with_reducible repeat (first | apply Kd.R_alloc | apply Kd.R_drewN | apply Kd.R_drew)); exact aG.out, bl_ HB⟩
 ·replace c4 := Bool.eq_false_iff.mpr c4; subst c4
  have H1 : (some ([] : List (S68))) = some r := by rw [if_neg (show ¬ (false = true) by decide)] at H; exact H
  clear H; have H := H1; clear H1; obtain rfl := Option.some.inj H
  go_enter Try.func13, Try.ntmps13
  go_wp2_with (first | ((with_reducible refine gate_dst (N := 2) rfl ?_); refine box_event ?hg (N := 2) ?hd (cs := #[.int .u64 a0_0, .int .i64 a0_1, .int .i64 a0_2, .slice A0_3 l0_3.length c0_3, .int .u64 a0_4, .int .i64 a0_5, .slice A0_6 l0_6.length c0_6]) (t := 28) ?hr ?_; (case hd => rfl); (case hg => rfl); (case hr => first | (go_simp; done) | (go_simp; rfl)); intro aE hg aX hbox hb; have aA := mk_ (hbox); have dI := gx_ hg HB; have bX := gx_ hg HB; replace HB := bs_ HB hb; clear hb hbox hg; obtain ⟨gG, gH, gI, gJ, gK, gL, gM⟩ := cz7_ aA; obtain ⟨gN, gO, gP, gQ, gR, gS, gT⟩ := fz7_ aA) | ((with_reducible refine gate_callee (f := 15) rfl ?_); refine gs_ (some 11) Try.func15 #[.agg #[.int .u64 a0_0, .int .i64 a0_1, .int .i64 a0_2, .slice A0_3 l0_3.length c0_3, .int .u64 a0_4, .int .i64 a0_5, .slice A0_6 l0_6.length c0_6]] ?_; (with_reducible refine (elastic_Right.calls k a0_0 a0_1 a0_2 _ _ l0_3 a0_4 a0_5 _ _ l0_6 false _ ?side1 ?side2 ?side3 ?side4 A3.out).mono ?_); (case side1 => exact ck_ (Kd.C_below bL.out HB.out)); (case side2 => exact bT.out); (case side3 => exact ck_ (Kd.C_below bU.out HB.out)); (case side4 => exact bV.out); rintro e gU ⟨rfl, hb⟩; refine ⟨_, rfl, ?_⟩; replace aA := bb_ aA hb; replace HB := bs_ HB hb; (try clear hb); (try clear hk); ))
  go_ret; exact ⟨_, by first | rfl | (simp [*] <;> rfl), by first | exact Kd.R_nil _ _ _ _ _ | exact Kd.N_nil _ _ _ _ _ | exact Kd.V_nil _ _ _ _ _ | exact Kd.Q_nil _ _ _ _ _ | exact Kd.S_nil _ _ _ _ _, bl_ HB⟩

end Go.Proofs.Ytljmjjeghebdpaa.PElasticSeen
