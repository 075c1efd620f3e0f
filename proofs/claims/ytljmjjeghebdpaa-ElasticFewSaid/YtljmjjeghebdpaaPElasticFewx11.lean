/- The functions that a law uses, each as a plain function, with the proof that a call of the Go function comes to its answer. Condition of each: the arguments read as the data that it names, and the plain function has an answer. Written by a program of this session (standin.py). -/
import Derived.Test.YtljmjjeghebdpaaPElasticFewx0
import Derived.Test.YtljmjjeghebdpaaPElasticFewx7
import Derived.Test.YtljmjjeghebdpaaPElasticFewx10
import Derived.Test.YtljmjjeghebdpaaShort
import Derived.Lib.SliceRun
import Derived.Test.YtljmjjeghebdpaaPressMore
namespace Go.Proofs.Ytljmjjeghebdpaa.PElasticFew
open Go.RowKit Go.Proofs.YtljmjjeghebdpaaW.PrintWords Go.Proofs.YtljmjjeghebdpaaW.PrintLast Go.Proofs.YtljmjjeghebdpaaW.PrintMore Go.Proofs.Ytljmjjeghebdpaa.Short Go.Proofs.Ytljmjjeghebdpaa.Press Go.Proofs.Ytljmjjeghebdpaa.PressMore
attribute [local go_sem] max2_int min2_int max_two min_two max_three min_three max_four min_four   -- for this text's walks alone
set_option linter.unusedVariables false
set_option linter.unusedSimpArgs false

/-! ### rillmeterlaw15_fed: function 23 -/
mutual
def rillmeterlaw15_fed.j0 : Nat → List ByteArray → Bool → Int → Int → Int → List (S56) → Int → Int → List (List Int) → Option (Int × Int × Int × (List (S56)) × Int × Int × (List (List Int)) × Bool)
  | 0, _, _, _, _, _, _, _, _, _ => none
  | k + 1, x1, x32, x355000, x355001, x355002, x355003, x355004, x355005, x355006 => if x32 = true then (some (x355000, x355001, x355002, x355003, x355004, x355005, x355006, false)) else (rillmeterlaw15_fed.l0 k x1 (x1.length : Int) 0 x355000 x355001 x355002 x355003 x355004 x355005 x355006)
def rillmeterlaw15_fed.l0 : Nat → List ByteArray → Int → Int → Int → Int → Int → List (S56) → Int → Int → List (List Int) → Option (Int × Int × Int × (List (S56)) × Int × Int × (List (List Int)) × Bool)
  | 0, _, _, _, _, _, _, _, _, _, _ => none
  | k + 1, x34, x35, x36, x355000, x355001, x355002, x355003, x355004, x355005, x355006 => if x36 < x35 then (if 0 ≤ x36 then (if x36 < (x34.length : Int) then ((elastic_Add.f k x355000 x355001 x355002 x355003 x355004 x355005 x355006 (rdOf ByteArray.empty x34 x36)).bind fun bt357 => (rillmeterlaw15_fed.l0 k x34 x35 (wrap64 (x36 + 1)) bt357.1 bt357.2.1 bt357.2.2.1 bt357.2.2.2.1 bt357.2.2.2.2.1 bt357.2.2.2.2.2.1 bt357.2.2.2.2.2.2.1)) else (none)) else (none)) else (some (x355000, x355001, x355002, x355003, x355004, x355005, x355006, true))
end
def rillmeterlaw15_fed.f (k : Nat) (a0_0 : Int) (a0_1 : Int) (a0_2 : Int) (a0_3 : Int) (a0_4 : Int) (a0_5 : Int) (l1 : List ByteArray) : Option (Int × Int × Int × (List (S56)) × Int × Int × (List (List Int)) × Bool) := (elastic_New.f k a0_0 a0_1 a0_2 a0_3 a0_4 a0_5).bind fun bt342 => (if bt342.2.2.2.2.2.2.2 = 0 then ((rillmeterref10_Short.f k l1 300).bind fun t355 => (rillmeterlaw15_fed.j0 k l1 (!t355) bt342.1 bt342.2.1 bt342.2.2.1 bt342.2.2.2.1 bt342.2.2.2.2.1 bt342.2.2.2.2.2.1 bt342.2.2.2.2.2.2.1)) else (rillmeterlaw15_fed.j0 k l1 true bt342.1 bt342.2.1 bt342.2.2.1 bt342.2.2.2.1 bt342.2.2.2.2.1 bt342.2.2.2.2.2.1 bt342.2.2.2.2.2.2.1))
theorem rillmeterlaw15_fed.mono_l : ∀ k, (∀ y0 y1 y2 y3 y4 y5 y6 y7 y8, LeO (rillmeterlaw15_fed.j0 k y0 y1 y2 y3 y4 y5 y6 y7 y8) (rillmeterlaw15_fed.j0 (k + 1) y0 y1 y2 y3 y4 y5 y6 y7 y8)) ∧ (∀ y0 y1 y2 y3 y4 y5 y6 y7 y8 y9, LeO (rillmeterlaw15_fed.l0 k y0 y1 y2 y3 y4 y5 y6 y7 y8 y9) (rillmeterlaw15_fed.l0 (k + 1) y0 y1 y2 y3 y4 y5 y6 y7 y8 y9))
  | 0 => ⟨fun _ _ _ _ _ _ _ _ _ r h => by simp [rillmeterlaw15_fed.j0] at h, fun _ _ _ _ _ _ _ _ _ _ r h => by simp [rillmeterlaw15_fed.l0] at h⟩
  | k + 1 => by
    obtain ⟨ih0, ih1⟩ := rillmeterlaw15_fed.mono_l k
    refine ⟨?_, ?_⟩
    · intro y0 y1 y2 y3 y4 y5 y6 y7 y8
      unfold rillmeterlaw15_fed.j0
      repeat' first
      | (with_reducible exact ih0 _ _ _ _ _ _ _ _ _)
      | (with_reducible exact ih1 _ _ _ _ _ _ _ _ _ _)
      | (with_reducible exact elastic_Add.mono _ _ _ _ _ _ _ _ _)
      | (with_reducible exact elastic_New.mono _ _ _ _ _ _ _)
      | (with_reducible exact rillmeterref10_Short.mono _ _ _)
      | (with_reducible exact LeO.refl _)
      | (with_reducible exact LeO.none _)
      | (with_reducible refine LeO.ite ?_ ?_)
      | (with_reducible refine LeO.bind ?_ (fun _ => ?_))
      | exact ih0 _ _ _ _ _ _ _ _ _
      | exact ih1 _ _ _ _ _ _ _ _ _ _
      | exact elastic_Add.mono _ _ _ _ _ _ _ _ _
      | exact elastic_New.mono _ _ _ _ _ _ _
      | exact rillmeterref10_Short.mono _ _ _
      | exact LeO.none _
      | refine LeO.ite ?_ ?_
      | refine LeO.bind ?_ (fun _ => ?_)
    · intro y0 y1 y2 y3 y4 y5 y6 y7 y8 y9
      unfold rillmeterlaw15_fed.l0
      repeat' first
      | (with_reducible exact ih0 _ _ _ _ _ _ _ _ _)
      | (with_reducible exact ih1 _ _ _ _ _ _ _ _ _ _)
      | (with_reducible exact elastic_Add.mono _ _ _ _ _ _ _ _ _)
      | (with_reducible exact elastic_New.mono _ _ _ _ _ _ _)
      | (with_reducible exact rillmeterref10_Short.mono _ _ _)
      | (with_reducible exact LeO.refl _)
      | (with_reducible exact LeO.none _)
      | (with_reducible refine LeO.ite ?_ ?_)
      | (with_reducible refine LeO.bind ?_ (fun _ => ?_))
      | exact ih0 _ _ _ _ _ _ _ _ _
      | exact ih1 _ _ _ _ _ _ _ _ _ _
      | exact elastic_Add.mono _ _ _ _ _ _ _ _ _
      | exact elastic_New.mono _ _ _ _ _ _ _
      | exact rillmeterref10_Short.mono _ _ _
      | exact LeO.none _
      | refine LeO.ite ?_ ?_
      | refine LeO.bind ?_ (fun _ => ?_)
theorem rillmeterlaw15_fed.mono : ∀ a0 a1 a2 a3 a4 a5 a6 k, LeO (rillmeterlaw15_fed.f k a0 a1 a2 a3 a4 a5 a6) (rillmeterlaw15_fed.f (k + 1) a0 a1 a2 a3 a4 a5 a6) := by
  intro a0 a1 a2 a3 a4 a5 a6 k
  obtain ⟨ih0, ih1⟩ := rillmeterlaw15_fed.mono_l k
  unfold rillmeterlaw15_fed.f
  repeat' first
      | (with_reducible exact ih0 _ _ _ _ _ _ _ _ _)
      | (with_reducible exact ih1 _ _ _ _ _ _ _ _ _ _)
      | (with_reducible exact elastic_Add.mono _ _ _ _ _ _ _ _ _)
      | (with_reducible exact elastic_New.mono _ _ _ _ _ _ _)
      | (with_reducible exact rillmeterref10_Short.mono _ _ _)
      | (with_reducible exact LeO.refl _)
      | (with_reducible exact LeO.none _)
      | (with_reducible refine LeO.ite ?_ ?_)
      | (with_reducible refine LeO.bind ?_ (fun _ => ?_))
      | exact ih0 _ _ _ _ _ _ _ _ _
      | exact ih1 _ _ _ _ _ _ _ _ _ _
      | exact elastic_Add.mono _ _ _ _ _ _ _ _ _
      | exact elastic_New.mono _ _ _ _ _ _ _
      | exact rillmeterref10_Short.mono _ _ _
      | exact LeO.none _
      | refine LeO.ite ?_ ?_
      | refine LeO.bind ?_ (fun _ => ?_)
set_option maxHeartbeats 80000000 in
set_option maxRecDepth 100000 in
theorem rillmeterlaw15_fed.calls (k : Nat) (a0_0 : Int) (a0_1 : Int) (a0_2 : Int) (a0_3 : Int) (a0_4 : Int) (a0_5 : Int) (A1 : Option Addr) (c1 : Nat) (l1 : List ByteArray) (r1 : Int) (r2 : Int) (r3 : Int) (r4 : List (S56)) (r5 : Int) (r6 : Int) (r7 : List (List Int)) (r8 : Bool) (w : World) (hr1 : Kd.C Kd.string w A1 l1.length l1) (hc1 : l1.length ≤ c1) (h : rillmeterlaw15_fed.f k a0_0 a0_1 a0_2 a0_3 a0_4 a0_5 l1 = some (r1, r2, r3, r4, r5, r6, r7, r8)) :
    Calls Try.prog 23 #[.agg #[.int .u64 a0_0, .int .i64 a0_1, .int .i64 a0_2, .int .i64 a0_3, .int .i64 a0_4, .int .i64 a0_5], .slice A1 l1.length c1] w fun e w' => ∃ v3_ v6_ : Value, e = .returned (.tuple #[.agg #[.int .u64 r1, .int .i64 r2, .int .i64 r3, v3_, .int .u64 r5, .int .i64 r6, v6_], .bool r8]) ∧ Kd.N k56 56 w' w.heap.size (fun k_ => (w.heap.size ≤ k_)) v3_ r4 ∧ Kd.V (Kd.slice 3 (Kd.int .i64)) 57 w' w.heap.size (fun k_ => (w.heap.size ≤ k_) ∧ some k_ ≠ (v3_ : Value).ownBlock) v6_ r7 ∧ Below w.heap.size w w' := by
 have hu60 := Try.underlying60; have hu28 := Try.underlying28; have HR1 := mk_ hr1; have HC1 := mk_ hc1; clear hr1 hc1; have HB := mk_ (Below.refl w.heap.size w); have H : ((elastic_New.f k a0_0 a0_1 a0_2 a0_3 a0_4 a0_5).bind fun bt342 => (if bt342.2.2.2.2.2.2.2 = 0 then ((rillmeterref10_Short.f k l1 300).bind fun bN => (rillmeterlaw15_fed.j0 k l1 (!bN) bt342.1 bt342.2.1 bt342.2.2.1 bt342.2.2.2.1 bt342.2.2.2.2.1 bt342.2.2.2.2.2.1 bt342.2.2.2.2.2.2.1)) else (rillmeterlaw15_fed.j0 k l1 true bt342.1 bt342.2.1 bt342.2.2.1 bt342.2.2.2.1 bt342.2.2.2.2.1 bt342.2.2.2.2.2.1 bt342.2.2.2.2.2.2.1))) = some (r1, r2, r3, r4, r5, r6, r7, r8) := h; clear h; replace H := Option.bind_eq_some_iff.mp H; obtain ⟨⟨aG, aH, aJ, aI, aM, aP, aQ, bO⟩, cV, H⟩ := H; replace H : (if bO = 0 then ((rillmeterref10_Short.f k l1 300).bind fun bN => (rillmeterlaw15_fed.j0 k l1 (!bN) aG aH aJ aI aM aP aQ)) else (rillmeterlaw15_fed.j0 k l1 true aG aH aJ aI aM aP aQ)) = some (r1, r2, r3, r4, r5, r6, r7, r8) := H; have A3 := mk_ cV; clear cV; have HC4 := mk_ H; clear H
 go_enter Try.func23, Try.ntmps23
 go_upto_region 2 with (first | ((with_reducible refine gate_dst (N := 2) rfl ?_); refine box_event ?hg (N := 2) ?hd (cs := #[.int .u64 a0_0, .int .i64 a0_1, .int .i64 a0_2, .int .i64 a0_3, .int .i64 a0_4, .int .i64 a0_5]) (t := 60) ?hr ?_; (case hd => rfl); (case hg => rfl); (case hr => first | (go_simp; done) | (go_simp; rfl)); intro aS hg w5 hbox hb; have n0_ := bs_ HB hb; have n1_ := mk_ (hbox); have n2_ := gx_ hg HB; have n3_ := gx_ hg HB; clear HB; have HB := n0_; have aF := n1_; have gN := n2_; have gO := n3_; clear n0_ n1_ n2_ n3_; clear hb hbox hg) | ((with_reducible refine gate_dst (N := 4) rfl ?_); refine box_event ?hg (N := 4) ?hd (cs := #[.int .u64 0, .int .i64 0, .int .i64 0, .slice none 0 0, .int .u64 0, .int .i64 0, .slice none 0 0]) (t := 28) ?hr ?_; (case hd => rfl); (case hg => rfl); (case hr => first | (go_simp; done) | (go_simp; rfl)); intro aC hg w6 hbox hb; have n0_ := bb_ aF hb; have n1_ := bs_ HB hb; have n2_ := mk_ (hbox); have n3_ := gx_ hg HB; have n4_ := gx_ hg HB; have n5_ := nx_ hg aF; have n6_ := ny_ hg aF; clear aF; clear HB; have aF := n0_; have HB := n1_; have aD := n2_; have gP := n3_; have gQ := n4_; have cK := n5_; have cL := n6_; clear n0_ n1_ n2_ n3_ n4_ n5_ n6_; clear hb hbox hg; have gR := cK.out; have gS := cL.out; obtain ⟨cW, cX, cY, cZ, dA, dB⟩ := cz6_ aF; obtain ⟨dC, dD, dE, dF, dG, dH⟩ := fz6_ aF) | ((with_reducible refine gate_callee (f := 21) rfl ?_); refine goesL_ (some 23) rfl rfl Try.func21 (by kernel_rfl) rfl #[.int .u64 a0_0, .int .i64 a0_1, .int .i64 a0_2, .int .i64 a0_3, .int .i64 a0_4, .int .i64 a0_5] rfl (by (try simp only [List.map_toArray, List.map_cons, List.map_nil]); first | done | rfl | (simp only [List.length_drop, List.length_take]; rfl)) ?_; (with_reducible refine (elastic_New.calls k a0_0 a0_1 a0_2 a0_3 a0_4 a0_5 aG aH aJ aI aM aP aQ bO _ A3.out).mono ?_); rintro e w9 ⟨fA, fB, rfl, ho0, ho1, hb⟩; refine ⟨_, rfl, ?_⟩; have n0_ := mk_ (Kd.N_lower (Kd.N_mono (ok' := fun k_ => (w.heap.size ≤ k_) ∧ some k_ ≠ (fB : Value).ownBlock ∧ k_ ≠ aS ∧ k_ ≠ aC) (Kd.S_N (Kd.S_bound (Kd.S_apart' ho0 (Kd.S_typed ho1) (by decide)))) (fun k_ aR => ⟨(Nat.le_trans (below_size (bl_ HB)) aR.2.1), aR.1.2, (Kd.freshB (bk_ aF) k_ aR.2.1), (Kd.freshB (bk_ aD) k_ aR.2.1)⟩)) (below_size (bl_ HB))); have n1_ := mk_ (Kd.N_lower (Kd.N_mono (ok' := fun k_ => (w.heap.size ≤ k_) ∧ some k_ ≠ (fA : Value).ownBlock ∧ k_ ≠ aS ∧ k_ ≠ aC) (Kd.S_N (Kd.S_bound (Kd.S_apart' ho1 (Kd.S_typed ho0) (by decide)))) (fun k_ aR => ⟨(Nat.le_trans (below_size (bl_ HB)) aR.2.1), aR.1.2, (Kd.freshB (bk_ aF) k_ aR.2.1), (Kd.freshB (bk_ aD) k_ aR.2.1)⟩)) (below_size (bl_ HB))); have n2_ := bb_ aF hb; have n3_ := bb_ aD hb; have n4_ := bs_ HB hb; clear aF; clear aD; clear HB; have bV := n0_; have bW := n1_; have aF := n2_; have aD := n3_; have HB := n4_; clear n0_ n1_ n2_ n3_ n4_; (try clear hb); (try clear hb2); (try clear hk); (try clear hi); (try clear ho0); (try clear ho1)) | ((with_reducible refine gate_dst (N := 6) rfl ?_); refine box_event ?hg (N := 6) ?hd (cs := #[.int .u64 0, .int .i64 0, .int .i64 0, .slice none 0 0, .int .u64 0, .int .i64 0, .slice none 0 0]) (t := 28) ?hr ?_; (case hd => rfl); (case hg => rfl); (case hr => first | (go_simp; done) | (go_simp; rfl)); intro aA hg bP hbox hb; have n0_ := mk_ (Kd.N_below (Kd.N_elderB (by (with_reducible repeat (first | apply Kd.N_alloc | apply Kd.N_drewN | apply Kd.N_drew)); exact bV.out) aA (Nat.le_of_eq hg.symm)) hb); have n1_ := mk_ (Kd.N_below (Kd.N_elderB (by (with_reducible repeat (first | apply Kd.N_alloc | apply Kd.N_drewN | apply Kd.N_drew)); exact bW.out) aA (Nat.le_of_eq hg.symm)) hb); have n2_ := bb_ aF hb; have n3_ := bb_ aD hb; have n4_ := bs_ HB hb; have n5_ := mk_ (hbox); have n6_ := gx_ hg HB; have n7_ := gx_ hg HB; have n8_ := nx_ hg aF; have n9_ := ny_ hg aF; have n10_ := nx_ hg aD; have n11_ := ny_ hg aD; clear bV; clear bW; clear aF; clear aD; clear HB; have bV := n0_; have bW := n1_; have aF := n2_; have aD := n3_; have HB := n4_; have aB := n5_; have gT := n6_; have gU := n7_; have aK := n8_; have cF := n9_; have aL := n10_; have cG := n11_; clear n0_ n1_ n2_ n3_ n4_ n5_ n6_ n7_ n8_ n9_ n10_ n11_; clear hb hbox hg; have gV := cF.out; have gW := aK.out; have gX := cG.out; have gY := aL.out; obtain ⟨dI, dJ, dK, dL, dM, dN, dO⟩ := cz7_ aB; obtain ⟨dP, dQ, dR, dS, dT, dU, dV⟩ := fz7_ aB; obtain ⟨aN, aO, eo14⟩ := Kd.N_slice bV.out; subst eo14; obtain ⟨bC, bD, eo15⟩ := Kd.N_slice bW.out; subst eo15))
 (try simp only [Act.put, sa_, sb_, sc_])
 go_cut [32] (fun fC wc => ∃ (kq : Nat) (cH : Bool), fC = .bool cH ∧ Aside0 (rillmeterlaw15_fed.j0 kq l1 cH aG aH aJ aI aM aP aQ = some (r1, r2, r3, r4, r5, r6, r7, r8)) ∧ Aside0 (kq ≤ k) ∧ Aside0 (Kd.N k56 56 wc w.heap.size (fun k_ => (w.heap.size ≤ k_) ∧ k_ ≠ aS ∧ k_ ≠ aC ∧ k_ ≠ aA) (.slice aN aI.length aO) aI) ∧ Aside0 (Kd.N (Kd.slice 3 (Kd.int .i64)) 57 wc w.heap.size (fun k_ => (w.heap.size ≤ k_) ∧ some k_ ≠ ((.slice aN aI.length aO) : Value).ownBlock ∧ k_ ≠ aS ∧ k_ ≠ aC ∧ k_ ≠ aA) (.slice bC aQ.length bD) aQ) ∧ Aside0 (wc.heap[aS]? = some (.cells #[.int .u64 a0_0, .int .i64 a0_1, .int .i64 a0_2, .int .i64 a0_3, .int .i64 a0_4, .int .i64 a0_5] 60 (0, 0))) ∧ Aside0 (wc.heap[aC]? = some (.cells #[.int .u64 0, .int .i64 0, .int .i64 0, (.slice none 0 0), .int .u64 0, .int .i64 0, (.slice none 0 0)] 28 (0, 0))) ∧ Aside0 (wc.heap[aA]? = some (.cells #[.int .u64 aG, .int .i64 aH, .int .i64 aJ, (.slice aN aI.length aO), .int .u64 aM, .int .i64 aP, (.slice bC aQ.length bD)] 28 (0, 0))) ∧ Aside0 (Below w.heap.size w wc))
 case first =>
  have H := HC4.out; clear HC4
  by_cases bI : bO = 0
  ·rw [if_pos bI] at H; have bQ : (bO == 0) = true := beq_iff_eq.mpr bI; have cM : (bO != 0) = false := bne_eq_false_iff_eq.mpr bI; clear bI
   (first | rw [bQ] | (simp only [i64_w, i32_w]; rw [bQ]) | skip)
   replace H := Option.bind_eq_some_iff.mp H; obtain ⟨bN, dW, H⟩ := H; replace H : (rillmeterlaw15_fed.j0 k l1 (!bN) aG aH aJ aI aM aP aQ) = some (r1, r2, r3, r4, r5, r6, r7, r8) := H; have fD := mk_ dW; clear dW; have H' := mk_ H; clear H
   go_wp2_with (first | (go_at_call 53; (with_reducible refine (rillmeterref10_Short.calls k _ _ l1 300 bN _ ?side1 ?side2 fD.out).mono ?_); (case side1 => exact Kd.C_below HR1.out (bl_ HB)); (case side2 => exact HC1.out); rintro e w' ⟨rfl, ⟨nd, rfl⟩⟩))
   go_meet
   case rel => exact ⟨_, (!bN), (by first | rfl | (simp; done) | (simp [*]; done)), H', ⟨by first | omega | exact Nat.le_refl _⟩, ⟨by (with_reducible repeat (first | apply Kd.N_alloc | apply Kd.N_drewN | apply Kd.N_drew)); exact Kd.N_mono (Kd.N_far (p := ⟨aA, 6, none⟩) (Kd.N_far (p := ⟨aA, 5, none⟩) (Kd.N_far (p := ⟨aA, 4, none⟩) (Kd.N_far (p := ⟨aA, 3, none⟩) (Kd.N_far (p := ⟨aA, 2, none⟩) (Kd.N_far (p := ⟨aA, 1, none⟩) (Kd.N_far (p := ⟨aA, 0, none⟩) (Kd.N_mono bV.out (fun k_ hk => (⟨hk, hk.2⟩ : _ ∧ k_ ≠ aA))) (fun _ hk => hk.2) (.int .u64 aG)) (fun _ hk => hk.2) (.int .i64 aH)) (fun _ hk => hk.2) (.int .i64 aJ)) (fun _ hk => hk.2) (.slice aN aI.length aO)) (fun _ hk => hk.2) (.int .u64 aM)) (fun _ hk => hk.2) (.int .i64 aP)) (fun _ hk => hk.2) (.slice bC aQ.length bD)) (fun _ hk => ⟨hk.1.1.1, ⟨hk.1.1.2.2.1, ⟨hk.1.1.2.2.2, hk.1.2⟩⟩⟩)⟩, ⟨by (with_reducible repeat (first | apply Kd.N_alloc | apply Kd.N_drewN | apply Kd.N_drew)); exact Kd.N_mono (Kd.N_far (p := ⟨aA, 6, none⟩) (Kd.N_far (p := ⟨aA, 5, none⟩) (Kd.N_far (p := ⟨aA, 4, none⟩) (Kd.N_far (p := ⟨aA, 3, none⟩) (Kd.N_far (p := ⟨aA, 2, none⟩) (Kd.N_far (p := ⟨aA, 1, none⟩) (Kd.N_far (p := ⟨aA, 0, none⟩) (Kd.N_mono bW.out (fun k_ hk => (⟨hk, hk.2⟩ : _ ∧ k_ ≠ aA))) (fun _ hk => hk.2) (.int .u64 aG)) (fun _ hk => hk.2) (.int .i64 aH)) (fun _ hk => hk.2) (.int .i64 aJ)) (fun _ hk => hk.2) (.slice aN aI.length aO)) (fun _ hk => hk.2) (.int .u64 aM)) (fun _ hk => hk.2) (.int .i64 aP)) (fun _ hk => hk.2) (.slice bC aQ.length bD)) (fun _ hk => ⟨hk.1.1.1, ⟨hk.1.1.2.1, ⟨hk.1.1.2.2.1, ⟨hk.1.1.2.2.2, hk.1.2⟩⟩⟩⟩)⟩, ⟨fb_⟩, ⟨fb_⟩, ⟨by (with_reducible repeat (first | refine blk_drewN ?_ _ | refine blk_drew ?_ | refine blk_alloc ?_ _)); refine blk_put (cs := #[.int .u64 aG, .int .i64 aH, .int .i64 aJ, .slice aN aI.length aO, .int .u64 aM, .int .i64 aP, .slice none 0 0]) ?_ 6 _ rfl; (with_reducible repeat (first | refine blk_drewN ?_ _ | refine blk_drew ?_ | refine blk_alloc ?_ _)); refine blk_put (cs := #[.int .u64 aG, .int .i64 aH, .int .i64 aJ, .slice aN aI.length aO, .int .u64 aM, .int .i64 0, .slice none 0 0]) ?_ 5 _ rfl; (with_reducible repeat (first | refine blk_drewN ?_ _ | refine blk_drew ?_ | refine blk_alloc ?_ _)); refine blk_put (cs := #[.int .u64 aG, .int .i64 aH, .int .i64 aJ, .slice aN aI.length aO, .int .u64 0, .int .i64 0, .slice none 0 0]) ?_ 4 _ rfl; (with_reducible repeat (first | refine blk_drewN ?_ _ | refine blk_drew ?_ | refine blk_alloc ?_ _)); refine blk_put (cs := #[.int .u64 aG, .int .i64 aH, .int .i64 aJ, .slice none 0 0, .int .u64 0, .int .i64 0, .slice none 0 0]) ?_ 3 _ rfl; (with_reducible repeat (first | refine blk_drewN ?_ _ | refine blk_drew ?_ | refine blk_alloc ?_ _)); refine blk_put (cs := #[.int .u64 aG, .int .i64 aH, .int .i64 0, .slice none 0 0, .int .u64 0, .int .i64 0, .slice none 0 0]) ?_ 2 _ rfl; (with_reducible repeat (first | refine blk_drewN ?_ _ | refine blk_drew ?_ | refine blk_alloc ?_ _)); refine blk_put (cs := #[.int .u64 aG, .int .i64 0, .int .i64 0, .slice none 0 0, .int .u64 0, .int .i64 0, .slice none 0 0]) ?_ 1 _ rfl; (with_reducible repeat (first | refine blk_drewN ?_ _ | refine blk_drew ?_ | refine blk_alloc ?_ _)); refine blk_put (cs := #[.int .u64 0, .int .i64 0, .int .i64 0, .slice none 0 0, .int .u64 0, .int .i64 0, .slice none 0 0]) ?_ 0 _ rfl; (with_reducible repeat (first | refine blk_drewN ?_ _ | refine blk_drew ?_ | refine blk_alloc ?_ _)); exact aB.out⟩, ⟨bl_ HB⟩⟩
  ·rw [if_neg bI] at H; have bQ : (bO == 0) = false := beq_eq_false_iff_ne.mpr bI; have cM : (bO != 0) = true := bne_iff_ne.mpr bI
   (first | rw [bQ] | (simp only [i64_w, i32_w]; rw [bQ]) | skip)
   have H' := mk_ H; clear H
   go_wp2
   go_meet
   case rel => exact ⟨_, (true), (by first | rfl | (simp; done) | (simp [*]; done)), H', ⟨by first | omega | exact Nat.le_refl _⟩, ⟨by (with_reducible repeat (first | apply Kd.N_alloc | apply Kd.N_drewN | apply Kd.N_drew)); exact Kd.N_mono (Kd.N_far (p := ⟨aA, 6, none⟩) (Kd.N_far (p := ⟨aA, 5, none⟩) (Kd.N_far (p := ⟨aA, 4, none⟩) (Kd.N_far (p := ⟨aA, 3, none⟩) (Kd.N_far (p := ⟨aA, 2, none⟩) (Kd.N_far (p := ⟨aA, 1, none⟩) (Kd.N_far (p := ⟨aA, 0, none⟩) (Kd.N_mono bV.out (fun k_ hk => (⟨hk, hk.2⟩ : _ ∧ k_ ≠ aA))) (fun _ hk => hk.2) (.int .u64 aG)) (fun _ hk => hk.2) (.int .i64 aH)) (fun _ hk => hk.2) (.int .i64 aJ)) (fun _ hk => hk.2) (.slice aN aI.length aO)) (fun _ hk => hk.2) (.int .u64 aM)) (fun _ hk => hk.2) (.int .i64 aP)) (fun _ hk => hk.2) (.slice bC aQ.length bD)) (fun _ hk => ⟨hk.1.1.1, ⟨hk.1.1.2.2.1, ⟨hk.1.1.2.2.2, hk.1.2⟩⟩⟩)⟩, ⟨by (with_reducible repeat (first | apply Kd.N_alloc | apply Kd.N_drewN | apply Kd.N_drew)); exact Kd.N_mono (Kd.N_far (p := ⟨aA, 6, none⟩) (Kd.N_far (p := ⟨aA, 5, none⟩) (Kd.N_far (p := ⟨aA, 4, none⟩) (Kd.N_far (p := ⟨aA, 3, none⟩) (Kd.N_far (p := ⟨aA, 2, none⟩) (Kd.N_far (p := ⟨aA, 1, none⟩) (Kd.N_far (p := ⟨aA, 0, none⟩) (Kd.N_mono bW.out (fun k_ hk => (⟨hk, hk.2⟩ : _ ∧ k_ ≠ aA))) (fun _ hk => hk.2) (.int .u64 aG)) (fun _ hk => hk.2) (.int .i64 aH)) (fun _ hk => hk.2) (.int .i64 aJ)) (fun _ hk => hk.2) (.slice aN aI.length aO)) (fun _ hk => hk.2) (.int .u64 aM)) (fun _ hk => hk.2) (.int .i64 aP)) (fun _ hk => hk.2) (.slice bC aQ.length bD)) (fun _ hk => ⟨hk.1.1.1, ⟨hk.1.1.2.1, ⟨hk.1.1.2.2.1, ⟨hk.1.1.2.2.2, hk.1.2⟩⟩⟩⟩)⟩, ⟨fb_⟩, ⟨fb_⟩, ⟨by (with_reducible repeat (first | refine blk_drewN ?_ _ | refine blk_drew ?_ | refine blk_alloc ?_ _)); refine blk_put (cs := #[.int .u64 aG, .int .i64 aH, .int .i64 aJ, .slice aN aI.length aO, .int .u64 aM, .int .i64 aP, .slice none 0 0]) ?_ 6 _ rfl; (with_reducible repeat (first | refine blk_drewN ?_ _ | refine blk_drew ?_ | refine blk_alloc ?_ _)); refine blk_put (cs := #[.int .u64 aG, .int .i64 aH, .int .i64 aJ, .slice aN aI.length aO, .int .u64 aM, .int .i64 0, .slice none 0 0]) ?_ 5 _ rfl; (with_reducible repeat (first | refine blk_drewN ?_ _ | refine blk_drew ?_ | refine blk_alloc ?_ _)); refine blk_put (cs := #[.int .u64 aG, .int .i64 aH, .int .i64 aJ, .slice aN aI.length aO, .int .u64 0, .int .i64 0, .slice none 0 0]) ?_ 4 _ rfl; (with_reducible repeat (first | refine blk_drewN ?_ _ | refine blk_drew ?_ | refine blk_alloc ?_ _)); refine blk_put (cs := #[.int .u64 aG, .int .i64 aH, .int .i64 aJ, .slice none 0 0, .int .u64 0, .int .i64 0, .slice none 0 0]) ?_ 3 _ rfl; (with_reducible repeat (first | refine blk_drewN ?_ _ | refine blk_drew ?_ | refine blk_alloc ?_ _)); refine blk_put (cs := #[.int .u64 aG, .int .i64 aH, .int .i64 0, .slice none 0 0, .int .u64 0, .int .i64 0, .slice none 0 0]) ?_ 2 _ rfl; (with_reducible repeat (first | refine blk_drewN ?_ _ | refine blk_drew ?_ | refine blk_alloc ?_ _)); refine blk_put (cs := #[.int .u64 aG, .int .i64 0, .int .i64 0, .slice none 0 0, .int .u64 0, .int .i64 0, .slice none 0 0]) ?_ 1 _ rfl; (with_reducible repeat (first | refine blk_drewN ?_ _ | refine blk_drew ?_ | refine blk_alloc ?_ _)); refine blk_put (cs := #[.int .u64 0, .int .i64 0, .int .i64 0, .slice none 0 0, .int .u64 0, .int .i64 0, .slice none 0 0]) ?_ 0 _ rfl; (with_reducible repeat (first | refine blk_drewN ?_ _ | refine blk_drew ?_ | refine blk_alloc ?_ _)); exact aB.out⟩, ⟨bl_ HB⟩⟩
 case rest =>
  clear HC4; (try clear c1); (try clear c2); (try clear p2); (try clear c7); (try clear fE); (try clear fF); (try clear bI); (try clear bQ); (try clear cM); (try clear dI); (try clear dJ); (try clear dK); (try clear dL); (try clear dM); (try clear dN); (try clear dO); (try clear cW); (try clear cX); (try clear cY); (try clear cZ); (try clear dA); (try clear dB); (try clear dP); (try clear dQ); (try clear dR); (try clear dS); (try clear dT); (try clear dU); (try clear dV); (try clear dC); (try clear dD); (try clear dE); (try clear dF); (try clear dG); (try clear dH); obtain ⟨kq, cH, rfl, HA, HJ3, bF, bG, aF, aD, aB, HB⟩ := hcut
  cases kq with
  | zero => exact absurd HA.out (by simp [rillmeterlaw15_fed.j0])
  | succ cN =>
   have H := HA.out; clear HA; simp only [rillmeterlaw15_fed.j0] at H
   by_cases cE : cH = true
   ·subst cE
    have H1 : (some (aG, aH, aJ, aI, aM, aP, aQ, false)) = some (r1, r2, r3, r4, r5, r6, r7, r8) := by rw [if_pos rfl] at H; exact H
    clear H; have H := H1; clear H1; simp only [Option.some.injEq, Prod.mk.injEq] at H; obtain ⟨rfl, rfl, rfl, rfl, rfl, rfl, rfl, rfl⟩ := H; have gZ := cF.out; have hA := aK.out; have hB := cG.out; have hC := aL.out; obtain ⟨fG, fH, fI, fJ, fK, fL, fM⟩ := cz7_ aB; obtain ⟨fN, fO, fP, fQ, fR, fS, fT⟩ := fz7_ aB; have hD := cL.out; have hE := cK.out; have fU : wc.cell? ⟨aC, 0, none⟩ = some (.int .u64 0) := bc_ aD 0
    have fV : wc.cell? ⟨aC, 1, none⟩ = some (.int .i64 0) := bc_ aD 1; have fW : wc.cell? ⟨aC, 2, none⟩ = some (.int .i64 0) := bc_ aD 2; have fX : wc.cell? ⟨aC, 3, none⟩ = some (.slice none 0 0) := bc_ aD 3; have fY : wc.cell? ⟨aC, 4, none⟩ = some (.int .u64 0) := bc_ aD 4; have fZ : wc.cell? ⟨aC, 5, none⟩ = some (.int .i64 0) := bc_ aD 5; have gA : wc.cell? ⟨aC, 6, none⟩ = some (.slice none 0 0) := bc_ aD 6; obtain ⟨gB, gC, gD, gE, gF, gG, gH⟩ := fz7_ aD
    go_wp2
    refine bodyPost_ret (results_ct rfl _ _ aC 28 #[.int .u64 aG, .int .i64 aH, .int .i64 aJ, .slice aN aI.length aO, .int .u64 aM, .int .i64 aP, .slice bC aQ.length bD] (0, 0) _ rfl (by (with_reducible repeat (first | refine blk_drewN ?_ _ | refine blk_drew ?_ | refine blk_alloc ?_ _)); refine blk_put (cs := #[.int .u64 aG, .int .i64 aH, .int .i64 aJ, .slice aN aI.length aO, .int .u64 aM, .int .i64 aP, .slice none 0 0]) ?_ 6 _ rfl; (with_reducible repeat (first | refine blk_drewN ?_ _ | refine blk_drew ?_ | refine blk_alloc ?_ _)); refine blk_put (cs := #[.int .u64 aG, .int .i64 aH, .int .i64 aJ, .slice aN aI.length aO, .int .u64 aM, .int .i64 0, .slice none 0 0]) ?_ 5 _ rfl; (with_reducible repeat (first | refine blk_drewN ?_ _ | refine blk_drew ?_ | refine blk_alloc ?_ _)); refine blk_put (cs := #[.int .u64 aG, .int .i64 aH, .int .i64 aJ, .slice aN aI.length aO, .int .u64 0, .int .i64 0, .slice none 0 0]) ?_ 4 _ rfl; (with_reducible repeat (first | refine blk_drewN ?_ _ | refine blk_drew ?_ | refine blk_alloc ?_ _)); refine blk_put (cs := #[.int .u64 aG, .int .i64 aH, .int .i64 aJ, .slice none 0 0, .int .u64 0, .int .i64 0, .slice none 0 0]) ?_ 3 _ rfl; (with_reducible repeat (first | refine blk_drewN ?_ _ | refine blk_drew ?_ | refine blk_alloc ?_ _)); refine blk_put (cs := #[.int .u64 aG, .int .i64 aH, .int .i64 0, .slice none 0 0, .int .u64 0, .int .i64 0, .slice none 0 0]) ?_ 2 _ rfl; (with_reducible repeat (first | refine blk_drewN ?_ _ | refine blk_drew ?_ | refine blk_alloc ?_ _)); refine blk_put (cs := #[.int .u64 aG, .int .i64 0, .int .i64 0, .slice none 0 0, .int .u64 0, .int .i64 0, .slice none 0 0]) ?_ 1 _ rfl; (with_reducible repeat (first | refine blk_drewN ?_ _ | refine blk_drew ?_ | refine blk_alloc ?_ _)); refine blk_put (cs := #[.int .u64 0, .int .i64 0, .int .i64 0, .slice none 0 0, .int .u64 0, .int .i64 0, .slice none 0 0]) ?_ 0 _ rfl; (with_reducible repeat (first | refine blk_drewN ?_ _ | refine blk_drew ?_ | refine blk_alloc ?_ _)); exact aD.out) Try.underlying28 rfl (by kernel_rfl)) rfl ?_
    exact ⟨_, _, by first | rfl | (simp [errW_none, errW_some] <;> rfl) | (simp [*, errW_none, errW_some] <;> rfl), by (with_reducible repeat (first | apply Kd.N_alloc | apply Kd.N_drewN | apply Kd.N_drew)); exact Kd.N_mono (Kd.N_far (p := ⟨aC, 6, none⟩) (Kd.N_far (p := ⟨aC, 5, none⟩) (Kd.N_far (p := ⟨aC, 4, none⟩) (Kd.N_far (p := ⟨aC, 3, none⟩) (Kd.N_far (p := ⟨aC, 2, none⟩) (Kd.N_far (p := ⟨aC, 1, none⟩) (Kd.N_far (p := ⟨aC, 0, none⟩) (Kd.N_mono bF.out (fun k_ hk => (⟨hk, hk.2.2.1⟩ : _ ∧ k_ ≠ aC))) (fun _ hk => hk.2) (.int .u64 aG)) (fun _ hk => hk.2) (.int .i64 aH)) (fun _ hk => hk.2) (.int .i64 aJ)) (fun _ hk => hk.2) (.slice aN aI.length aO)) (fun _ hk => hk.2) (.int .u64 aM)) (fun _ hk => hk.2) (.int .i64 aP)) (fun _ hk => hk.2) (.slice bC aQ.length bD)) (fun _ hk => hk.1.1), Kd.N_V (by (with_reducible repeat (first | apply Kd.N_alloc | apply Kd.N_drewN | apply Kd.N_drew)); exact Kd.N_mono (Kd.N_far (p := ⟨aC, 6, none⟩) (Kd.N_far (p := ⟨aC, 5, none⟩) (Kd.N_far (p := ⟨aC, 4, none⟩) (Kd.N_far (p := ⟨aC, 3, none⟩) (Kd.N_far (p := ⟨aC, 2, none⟩) (Kd.N_far (p := ⟨aC, 1, none⟩) (Kd.N_far (p := ⟨aC, 0, none⟩) (Kd.N_mono bG.out (fun k_ hk => (⟨hk, hk.2.2.2.1⟩ : _ ∧ k_ ≠ aC))) (fun _ hk => hk.2) (.int .u64 aG)) (fun _ hk => hk.2) (.int .i64 aH)) (fun _ hk => hk.2) (.int .i64 aJ)) (fun _ hk => hk.2) (.slice aN aI.length aO)) (fun _ hk => hk.2) (.int .u64 aM)) (fun _ hk => hk.2) (.int .i64 aP)) (fun _ hk => hk.2) (.slice bC aQ.length bD)) (fun _ hk => ⟨hk.1.1, hk.1.2.1⟩)), bl_ HB⟩
   ·replace cE := Bool.eq_false_iff.mpr cE; subst cE
    have H1 : (rillmeterlaw15_fed.l0 cN l1 (l1.length : Int) 0 aG aH aJ aI aM aP aQ) = some (r1, r2, r3, r4, r5, r6, r7, r8) := by rw [if_neg (show ¬ (false = true) by decide)] at H; exact H
    clear H; have H := H1; clear H1; have H' := mk_ H; clear H
    go_wp2
    go_loopg [36] cN (fun kq gI w' => ∃ (aY : Int) (aT : Int) (aU : Int) (aV : Int) (aZ : List (S56)) (aW : Int) (aX : Int) (bA : List (List Int)) (u355003 : Value) (u355006 : Value), gI = .int .i64 aY ∧ Aside0 (rillmeterlaw15_fed.l0 kq l1 (l1.length : Int) aY aT aU aV aZ aW aX bA = some (r1, r2, r3, r4, r5, r6, r7, r8)) ∧ Aside0 (kq ≤ cN) ∧ Aside0 (Kd.N k56 56 w' w.heap.size (fun k_ => (w.heap.size ≤ k_) ∧ k_ ≠ aS ∧ k_ ≠ aC ∧ k_ ≠ aA) u355003 aZ) ∧ Aside0 (Kd.V (Kd.slice 3 (Kd.int .i64)) 57 w' w.heap.size (fun k_ => (w.heap.size ≤ k_) ∧ some k_ ≠ (u355003 : Value).ownBlock ∧ k_ ≠ aS ∧ k_ ≠ aC ∧ k_ ≠ aA) u355006 bA) ∧ Aside0 (w'.heap[aS]? = some (.cells #[.int .u64 a0_0, .int .i64 a0_1, .int .i64 a0_2, .int .i64 a0_3, .int .i64 a0_4, .int .i64 a0_5] 60 (0, 0))) ∧ Aside0 (w'.heap[aC]? = some (.cells #[.int .u64 0, .int .i64 0, .int .i64 0, (.slice none 0 0), .int .u64 0, .int .i64 0, (.slice none 0 0)] 28 (0, 0))) ∧ Aside0 (w'.heap[aA]? = some (.cells #[.int .u64 aT, .int .i64 aU, .int .i64 aV, u355003, .int .u64 aW, .int .i64 aX, u355006] 28 (0, 0))) ∧ Aside0 (Below w.heap.size w w'))
    case atStart => exact ⟨(0), (aG), (aH), (aJ), (aI), (aM), (aP), (aQ), (.slice aN aI.length aO), (.slice bC aQ.length bD), (by first | rfl | (simp; done) | (simp [*]; done)), H', ⟨Nat.le_refl _⟩, ⟨by (with_reducible repeat (first | apply Kd.N_alloc | apply Kd.N_drewN | apply Kd.N_drew)); exact bF.out⟩, ⟨Kd.N_V (by (with_reducible repeat (first | apply Kd.N_alloc | apply Kd.N_drewN | apply Kd.N_drew)); exact bG.out)⟩, ⟨bk_ aF⟩, ⟨bk_ aD⟩, ⟨bk_ aB⟩, ⟨bl_ HB⟩⟩
    case round =>
     clear H'; (try clear c1); (try clear c2); (try clear p2); (try clear c7); (try clear fE); (try clear fF); (try clear bI); (try clear bQ); (try clear cM); (try clear cE); (try clear hF); (try clear hG); (try clear hH); (try clear hI); (try clear hJ); (try clear dI); (try clear dJ); (try clear dK); (try clear dL); (try clear dM); (try clear dN); (try clear dO); (try clear fG); (try clear fH); (try clear fI); (try clear fJ); (try clear fK); (try clear fL); (try clear fM); (try clear fU); (try clear fV); (try clear fW); (try clear fX); (try clear fY); (try clear fZ); (try clear gA); (try clear cW); (try clear cX); (try clear cY); (try clear cZ); (try clear dA); (try clear dB); (try clear dP); (try clear dQ); (try clear dR); (try clear dS); (try clear dT); (try clear dU); (try clear dV); (try clear fN); (try clear fO); (try clear fP); (try clear fQ); (try clear fR); (try clear fS); (try clear fT); (try clear gB); (try clear gC); (try clear gD); (try clear gE); (try clear gF); (try clear gG); (try clear gH); (try clear dC); (try clear dD); (try clear dE); (try clear dF); (try clear dG); (try clear dH); (try clear p2)
     obtain ⟨aY, aT, aU, aV, aZ, aW, aX, bA, u355003, u355006, rfl, HA, HK2, bF, bG, aF, aD, aB, HB⟩ := hrel
     cases gk with
     | zero => exact absurd HA.out (by simp [rillmeterlaw15_fed.l0])
     | succ k2 =>
      have H := HA.out; clear HA; simp only [rillmeterlaw15_fed.l0] at H
      by_cases bX : aY < (l1.length : Int)
      ·rw [if_pos bX] at H; have gJ : decide (aY < (l1.length : Int)) = true := decide_eq_true bX; clear bX
       by_cases cI : 0 ≤ aY
       ·rw [if_pos cI] at H; have hK : decide (0 ≤ aY) = true := decide_eq_true cI; clear cI
        by_cases cJ : aY < (l1.length : Int)
        ·rw [if_pos cJ] at H; have hL : decide (aY < (l1.length : Int)) = true := decide_eq_true cJ; clear cJ; replace H := Option.bind_eq_some_iff.mp H; obtain ⟨⟨bE, bH, bJ, bK, bR, bY, bZ, gK⟩, dX, H⟩ := H; replace H : (rillmeterlaw15_fed.l0 k2 l1 (l1.length : Int) (wrap64 (aY + 1)) bE bH bJ bK bR bY bZ) = some (r1, r2, r3, r4, r5, r6, r7, r8) := H; have gL := mk_ dX; clear dX; have H' := mk_ H; clear H; have cO : 0 ≤ (aY : Int) := of_decide_eq_true (by first | (with_reducible assumption) | assumption); have cP : aY < (l1.length : Int) := of_decide_eq_true (by first | (with_reducible assumption) | assumption); obtain ⟨hM, e356, cQ⟩ := Kd.at_string HR1.out aY cO cP
         cases e356; (try replace cQ := bt_ HB cQ); replace cO := eq_true cO; replace cP := eq_true cP; have hN := cF.out; have hO := aK.out; have hP := cG.out; have hQ := aL.out; obtain ⟨hR, hS, hT, hU, hV, hW, hX⟩ := cz7_ aB; obtain ⟨hY, hZ, iA, iB, iC, iD, iE⟩ := fz7_ aB; obtain ⟨bS, bT, eo31⟩ := Kd.N_slice bF.out; subst eo31; obtain ⟨bL, bM, eo32⟩ := Kd.V_slice bG.out; subst eo32
         go_wp2_with (first | ((with_reducible refine gate_callee (f := 11) rfl ?_); refine goesL_ (some 43) rfl rfl Try.func11 (by kernel_rfl) rfl #[.agg #[.int .u64 aT, .int .i64 aU, .int .i64 aV, .slice bS aZ.length bT, .int .u64 aW, .int .i64 aX, .slice bL bA.length bM], .string (rdOf ByteArray.empty l1 aY)] rfl (by (try simp only [List.map_toArray, List.map_cons, List.map_nil]); first | done | rfl | (simp only [List.length_drop, List.length_take]; rfl)) ?_; (with_reducible refine (elastic_Add.calls k2 aT aU aV (fun k_ => ((w.heap.size ≤ k_) ∧ (k_ ≠ aS ∧ (k_ ≠ aC ∧ k_ ≠ aA)))) _ _ aZ aW aX (fun k_ => ((w.heap.size ≤ k_) ∧ (some k_ ≠ (.slice bS aZ.length bT : Value).ownBlock ∧ (k_ ≠ aS ∧ (k_ ≠ aC ∧ k_ ≠ aA))))) _ _ bA (rdOf ByteArray.empty l1 aY) bE bH bJ bK bR bY bZ gK _ ?side1 ?side2 gL.out).mono ?_); (case side1 => exact Kd.N_V (bF.out)); (case side2 => exact bG.out); rintro e bU ⟨gM, iF, rfl, ho0, ho1, hb⟩; refine ⟨_, rfl, ?_⟩; have n0_ := mk_ (Kd.N_elder' (by (with_reducible repeat (first | apply Kd.N_alloc | apply Kd.N_drewN | apply Kd.N_drew)); exact bF.out) (by first | exact Kd.N_base ho0 | exact Kd.S_base ho0) hb); have n1_ := mk_ (Kd.V_elder' (vk_ bG) (by first | exact Kd.N_base ho0 | exact Kd.S_base ho0) hb); have n2_ := mk_ (Kd.N_lower (Kd.N_mono (ok' := fun k_ => (w.heap.size ≤ k_) ∧ k_ ≠ aS ∧ k_ ≠ aC ∧ k_ ≠ aA) ho0 (fun k_ aR => ⟨Or.elim aR (fun aE => Or.elim aE (fun aE => aE.1) (fun aE => aE.1)) (fun bB => (Nat.le_trans (below_size (bl_ HB)) bB)), Or.elim aR (fun aE => Or.elim aE (fun aE => aE.2.1) (fun aE => aE.2.2.1)) (fun bB => (Kd.freshB (bk_ aF) k_ bB)), Or.elim aR (fun aE => Or.elim aE (fun aE => aE.2.2.1) (fun aE => aE.2.2.2.1)) (fun bB => (Kd.freshB (bk_ aD) k_ bB)), Or.elim aR (fun aE => Or.elim aE (fun aE => aE.2.2.2) (fun aE => aE.2.2.2.2)) (fun bB => (Kd.freshB (bk_ aB) k_ bB))⟩)) (below_size (bl_ HB))); have n3_ := mk_ (Kd.V_lower (Kd.V_mono (ok' := fun k_ => (w.heap.size ≤ k_) ∧ some k_ ≠ (gM : Value).ownBlock ∧ k_ ≠ aS ∧ k_ ≠ aC ∧ k_ ≠ aA) ho1 (fun k_ aR => ⟨Or.elim aR.1 (fun aE => Or.elim aE (fun aE => aE.1) (fun aE => aE.1)) (fun bB => (Nat.le_trans (below_size (bl_ HB)) bB)), aR.2, Or.elim aR.1 (fun aE => Or.elim aE (fun aE => aE.2.1) (fun aE => aE.2.2.1)) (fun bB => (Kd.freshB (bk_ aF) k_ bB)), Or.elim aR.1 (fun aE => Or.elim aE (fun aE => aE.2.2.1) (fun aE => aE.2.2.2.1)) (fun bB => (Kd.freshB (bk_ aD) k_ bB)), Or.elim aR.1 (fun aE => Or.elim aE (fun aE => aE.2.2.2) (fun aE => aE.2.2.2.2)) (fun bB => (Kd.freshB (bk_ aB) k_ bB))⟩)) (below_size (bl_ HB))); have n4_ := bb_ aF hb; have n5_ := bb_ aD hb; have n6_ := bb_ aB hb; have n7_ := bs_ HB hb; clear bF; clear bG; clear aF; clear aD; clear aB; clear HB; have bF := n0_; have bG := n1_; have dY := n2_; have dZ := n3_; have aF := n4_; have aD := n5_; have aB := n6_; have HB := n7_; clear n0_ n1_ n2_ n3_ n4_ n5_ n6_ n7_; (try clear hb); (try clear hb2); (try clear hk); (try clear hi); (try clear ho0); (try clear ho1); obtain ⟨iG, iH, iI, iJ, iK, iL, iM⟩ := cz7_ aB; obtain ⟨iN, iO, iP, iQ, iR, iS, iT⟩ := fz7_ aB; obtain ⟨cA, cB, eo35⟩ := Kd.N_slice dY.out; subst eo35; obtain ⟨cR, cS, eo36⟩ := Kd.V_slice dZ.out; subst eo36))
         go_roundg k2
         case measure => have := HJ3.out; have := HK2.out; omega
         case rel => exact ⟨(wrap64 (aY + 1)), (bE), (bH), (bJ), (bK), (bR), (bY), (bZ), (.slice cA bK.length cB), (.slice cR bZ.length cS), (by first | rfl | (simp; done) | (simp [*]; done)), H', ⟨by have := HJ3.out; have := HK2.out; omega⟩, ⟨by (with_reducible repeat (first | apply Kd.N_alloc | apply Kd.N_drewN | apply Kd.N_drew)); exact Kd.N_mono (Kd.N_far (p := ⟨aA, 6, none⟩) (Kd.N_far (p := ⟨aA, 5, none⟩) (Kd.N_far (p := ⟨aA, 4, none⟩) (Kd.N_far (p := ⟨aA, 3, none⟩) (Kd.N_far (p := ⟨aA, 2, none⟩) (Kd.N_far (p := ⟨aA, 1, none⟩) (Kd.N_far (p := ⟨aA, 0, none⟩) (Kd.N_mono dY.out (fun k_ hk => (⟨hk, hk.2.2.2⟩ : _ ∧ k_ ≠ aA))) (fun _ hk => hk.2) (.int .u64 bE)) (fun _ hk => hk.2) (.int .i64 bH)) (fun _ hk => hk.2) (.int .i64 bJ)) (fun _ hk => hk.2) (.slice cA bK.length cB)) (fun _ hk => hk.2) (.int .u64 bR)) (fun _ hk => hk.2) (.int .i64 bY)) (fun _ hk => hk.2) (.slice cR bZ.length cS)) (fun _ hk => ⟨hk.1.1, ⟨hk.1.2.1, ⟨hk.1.2.2.1, hk.1.2.2.2⟩⟩⟩)⟩, ⟨by (with_reducible repeat (first | apply Kd.V_alloc | apply Kd.V_drewN | apply Kd.V_drew)); exact Kd.V_mono (Kd.V_far (p := ⟨aA, 6, none⟩) (Kd.V_far (p := ⟨aA, 5, none⟩) (Kd.V_far (p := ⟨aA, 4, none⟩) (Kd.V_far (p := ⟨aA, 3, none⟩) (Kd.V_far (p := ⟨aA, 2, none⟩) (Kd.V_far (p := ⟨aA, 1, none⟩) (Kd.V_far (p := ⟨aA, 0, none⟩) (Kd.V_mono dZ.out (fun k_ hk => (⟨hk, hk.2.2.2.2⟩ : _ ∧ k_ ≠ aA))) (fun _ hk => hk.2) (.int .u64 bE)) (fun _ hk => hk.2) (.int .i64 bH)) (fun _ hk => hk.2) (.int .i64 bJ)) (fun _ hk => hk.2) (.slice cA bK.length cB)) (fun _ hk => hk.2) (.int .u64 bR)) (fun _ hk => hk.2) (.int .i64 bY)) (fun _ hk => hk.2) (.slice cR bZ.length cS)) (fun _ hk => ⟨hk.1.1, ⟨hk.1.2.1, ⟨hk.1.2.2.1, ⟨hk.1.2.2.2.1, hk.1.2.2.2.2⟩⟩⟩⟩)⟩, ⟨fb_⟩, ⟨fb_⟩, ⟨by (with_reducible repeat (first | refine blk_drewN ?_ _ | refine blk_drew ?_ | refine blk_alloc ?_ _)); refine blk_put (cs := #[.int .u64 bE, .int .i64 bH, .int .i64 bJ, .slice cA bK.length cB, .int .u64 bR, .int .i64 bY, .slice bL bA.length bM]) ?_ 6 _ rfl; (with_reducible repeat (first | refine blk_drewN ?_ _ | refine blk_drew ?_ | refine blk_alloc ?_ _)); refine blk_put (cs := #[.int .u64 bE, .int .i64 bH, .int .i64 bJ, .slice cA bK.length cB, .int .u64 bR, .int .i64 aX, .slice bL bA.length bM]) ?_ 5 _ rfl; (with_reducible repeat (first | refine blk_drewN ?_ _ | refine blk_drew ?_ | refine blk_alloc ?_ _)); refine blk_put (cs := #[.int .u64 bE, .int .i64 bH, .int .i64 bJ, .slice cA bK.length cB, .int .u64 aW, .int .i64 aX, .slice bL bA.length bM]) ?_ 4 _ rfl; (with_reducible repeat (first | refine blk_drewN ?_ _ | refine blk_drew ?_ | refine blk_alloc ?_ _)); refine blk_put (cs := #[.int .u64 bE, .int .i64 bH, .int .i64 bJ, .slice bS aZ.length bT, .int .u64 aW, .int .i64 aX, .slice bL bA.length bM]) ?_ 3 _ rfl; (with_reducible repeat (first | refine blk_drewN ?_ _ | refine blk_drew ?_ | refine blk_alloc ?_ _)); refine blk_put (cs := #[.int .u64 bE, .int .i64 bH, .int .i64 aV, .slice bS aZ.length bT, .int .u64 aW, .int .i64 aX, .slice bL bA.length bM]) ?_ 2 _ rfl; (with_reducible repeat (first | refine blk_drewN ?_ _ | refine blk_drew ?_ | refine blk_alloc ?_ _)); refine blk_put (cs := #[.int .u64 bE, .int .i64 aU, .int .i64 aV, .slice bS aZ.length bT, .int .u64 aW, .int .i64 aX, .slice bL bA.length bM]) ?_ 1 _ rfl; (with_reducible repeat (first | refine blk_drewN ?_ _ | refine blk_drew ?_ | refine blk_alloc ?_ _)); refine blk_put (cs := #[.int .u64 aT, .int .i64 aU, .int .i64 aV, .slice bS aZ.length bT, .int .u64 aW, .int .i64 aX, .slice bL bA.length bM]) ?_ 0 _ rfl; (with_reducible repeat (first | refine blk_drewN ?_ _ | refine blk_drew ?_ | refine blk_alloc ?_ _)); exact aB.out⟩, ⟨bl_ HB⟩⟩
        ·rw [if_neg cJ] at H; exact absurd H (by simp)
       ·rw [if_neg cI] at H; exact absurd H (by simp)
      ·rw [if_neg bX] at H; have gJ : decide (aY < (l1.length : Int)) = false := decide_eq_false bX; clear bX; simp only [Option.some.injEq, Prod.mk.injEq] at H; obtain ⟨rfl, rfl, rfl, rfl, rfl, rfl, rfl, rfl⟩ := H; have iU := cF.out; have iV := aK.out; have iW := cG.out; have iX := aL.out; obtain ⟨iY, iZ, jA, jB, jC, jD, jE⟩ := cz7_ aB; obtain ⟨jF, jG, jH, jI, jJ, jK, jL⟩ := fz7_ aB; have jM := cL.out; have jN := cK.out
       obtain ⟨jO, jP, jQ, jR, jS, jT, jU⟩ := cz7_ aD; obtain ⟨jV, jW, jX, jY, jZ, lA, lB⟩ := fz7_ aD; obtain ⟨cC, cD, eo42⟩ := Kd.N_slice bF.out; subst eo42; obtain ⟨cT, cU, eo43⟩ := Kd.V_slice bG.out; subst eo43
       go_wp2
       refine bodyPost_ret (results_ct rfl _ _ aC 28 #[.int .u64 aT, .int .i64 aU, .int .i64 aV, .slice cC aZ.length cD, .int .u64 aW, .int .i64 aX, .slice cT bA.length cU] (0, 0) _ rfl (by (with_reducible repeat (first | refine blk_drewN ?_ _ | refine blk_drew ?_ | refine blk_alloc ?_ _)); refine blk_put (cs := #[.int .u64 aT, .int .i64 aU, .int .i64 aV, .slice cC aZ.length cD, .int .u64 aW, .int .i64 aX, .slice none 0 0]) ?_ 6 _ rfl; (with_reducible repeat (first | refine blk_drewN ?_ _ | refine blk_drew ?_ | refine blk_alloc ?_ _)); refine blk_put (cs := #[.int .u64 aT, .int .i64 aU, .int .i64 aV, .slice cC aZ.length cD, .int .u64 aW, .int .i64 0, .slice none 0 0]) ?_ 5 _ rfl; (with_reducible repeat (first | refine blk_drewN ?_ _ | refine blk_drew ?_ | refine blk_alloc ?_ _)); refine blk_put (cs := #[.int .u64 aT, .int .i64 aU, .int .i64 aV, .slice cC aZ.length cD, .int .u64 0, .int .i64 0, .slice none 0 0]) ?_ 4 _ rfl; (with_reducible repeat (first | refine blk_drewN ?_ _ | refine blk_drew ?_ | refine blk_alloc ?_ _)); refine blk_put (cs := #[.int .u64 aT, .int .i64 aU, .int .i64 aV, .slice none 0 0, .int .u64 0, .int .i64 0, .slice none 0 0]) ?_ 3 _ rfl; (with_reducible repeat (first | refine blk_drewN ?_ _ | refine blk_drew ?_ | refine blk_alloc ?_ _)); refine blk_put (cs := #[.int .u64 aT, .int .i64 aU, .int .i64 0, .slice none 0 0, .int .u64 0, .int .i64 0, .slice none 0 0]) ?_ 2 _ rfl; (with_reducible repeat (first | refine blk_drewN ?_ _ | refine blk_drew ?_ | refine blk_alloc ?_ _)); refine blk_put (cs := #[.int .u64 aT, .int .i64 0, .int .i64 0, .slice none 0 0, .int .u64 0, .int .i64 0, .slice none 0 0]) ?_ 1 _ rfl; (with_reducible repeat (first | refine blk_drewN ?_ _ | refine blk_drew ?_ | refine blk_alloc ?_ _)); refine blk_put (cs := #[.int .u64 0, .int .i64 0, .int .i64 0, .slice none 0 0, .int .u64 0, .int .i64 0, .slice none 0 0]) ?_ 0 _ rfl; (with_reducible repeat (first | refine blk_drewN ?_ _ | refine blk_drew ?_ | refine blk_alloc ?_ _)); exact aD.out) Try.underlying28 rfl (by kernel_rfl)) rfl ?_
       exact ⟨_, _, by first | rfl | (simp [errW_none, errW_some] <;> rfl) | (simp [*, errW_none, errW_some] <;> rfl), by (with_reducible repeat (first | apply Kd.N_alloc | apply Kd.N_drewN | apply Kd.N_drew)); exact Kd.N_mono (Kd.N_far (p := ⟨aC, 6, none⟩) (Kd.N_far (p := ⟨aC, 5, none⟩) (Kd.N_far (p := ⟨aC, 4, none⟩) (Kd.N_far (p := ⟨aC, 3, none⟩) (Kd.N_far (p := ⟨aC, 2, none⟩) (Kd.N_far (p := ⟨aC, 1, none⟩) (Kd.N_far (p := ⟨aC, 0, none⟩) (Kd.N_mono bF.out (fun k_ hk => (⟨hk, hk.2.2.1⟩ : _ ∧ k_ ≠ aC))) (fun _ hk => hk.2) (.int .u64 aT)) (fun _ hk => hk.2) (.int .i64 aU)) (fun _ hk => hk.2) (.int .i64 aV)) (fun _ hk => hk.2) (.slice cC aZ.length cD)) (fun _ hk => hk.2) (.int .u64 aW)) (fun _ hk => hk.2) (.int .i64 aX)) (fun _ hk => hk.2) (.slice cT bA.length cU)) (fun _ hk => hk.1.1), by (with_reducible repeat (first | apply Kd.V_alloc | apply Kd.V_drewN | apply Kd.V_drew)); exact Kd.V_mono (Kd.V_far (p := ⟨aC, 6, none⟩) (Kd.V_far (p := ⟨aC, 5, none⟩) (Kd.V_far (p := ⟨aC, 4, none⟩) (Kd.V_far (p := ⟨aC, 3, none⟩) (Kd.V_far (p := ⟨aC, 2, none⟩) (Kd.V_far (p := ⟨aC, 1, none⟩) (Kd.V_far (p := ⟨aC, 0, none⟩) (Kd.V_mono bG.out (fun k_ hk => (⟨hk, hk.2.2.2.1⟩ : _ ∧ k_ ≠ aC))) (fun _ hk => hk.2) (.int .u64 aT)) (fun _ hk => hk.2) (.int .i64 aU)) (fun _ hk => hk.2) (.int .i64 aV)) (fun _ hk => hk.2) (.slice cC aZ.length cD)) (fun _ hk => hk.2) (.int .u64 aW)) (fun _ hk => hk.2) (.int .i64 aX)) (fun _ hk => hk.2) (.slice cT bA.length cU)) (fun _ hk => ⟨hk.1.1, hk.1.2.1⟩), bl_ HB⟩

/-! ### rillmeterlaw15_many: function 24 -/
def rillmeterlaw15_many.l0 : Nat → ByteArray → Int → List ByteArray → Int → Int → Option (Int)
  | 0, _, _, _, _, _ => none
  | k + 1, x1, x5, x8, x9, x10 => if x10 < x9 then (if 0 ≤ x10 then (if x10 < (x8.length : Int) then (if (rdOf ByteArray.empty x8 x10).toList = x1.toList then (rillmeterlaw15_many.l0 k x1 (wrap64 (x5 + 1)) x8 x9 (wrap64 (x10 + 1))) else (rillmeterlaw15_many.l0 k x1 x5 x8 x9 (wrap64 (x10 + 1)))) else (none)) else (none)) else (some x5)
def rillmeterlaw15_many.f (k : Nat) (l0 : List ByteArray) (a1 : ByteArray) : Option (Int) := rillmeterlaw15_many.l0 k a1 0 l0 (l0.length : Int) 0
theorem rillmeterlaw15_many.mono_l : ∀ k, (∀ y0 y1 y2 y3 y4, LeO (rillmeterlaw15_many.l0 k y0 y1 y2 y3 y4) (rillmeterlaw15_many.l0 (k + 1) y0 y1 y2 y3 y4))
  | 0 => fun _ _ _ _ _ r h => by simp [rillmeterlaw15_many.l0] at h
  | k + 1 => by
    have ih0 := rillmeterlaw15_many.mono_l k
    · intro y0 y1 y2 y3 y4
      unfold rillmeterlaw15_many.l0
      repeat' first
      | (with_reducible exact ih0 _ _ _ _ _)
      | (with_reducible exact LeO.refl _)
      | (with_reducible exact LeO.none _)
      | (with_reducible refine LeO.ite ?_ ?_)
      | (with_reducible refine LeO.bind ?_ (fun _ => ?_))
      | exact ih0 _ _ _ _ _
      | exact LeO.none _
      | refine LeO.ite ?_ ?_
      | refine LeO.bind ?_ (fun _ => ?_)
theorem rillmeterlaw15_many.mono : ∀ a0 a1 k, LeO (rillmeterlaw15_many.f k a0 a1) (rillmeterlaw15_many.f (k + 1) a0 a1) := by
  intro a0 a1 k
  have ih0 := rillmeterlaw15_many.mono_l k
  unfold rillmeterlaw15_many.f
  repeat' first
      | (with_reducible exact ih0 _ _ _ _ _)
      | (with_reducible exact LeO.refl _)
      | (with_reducible exact LeO.none _)
      | (with_reducible refine LeO.ite ?_ ?_)
      | (with_reducible refine LeO.bind ?_ (fun _ => ?_))
      | exact ih0 _ _ _ _ _
      | exact LeO.none _
      | refine LeO.ite ?_ ?_
      | refine LeO.bind ?_ (fun _ => ?_)
set_option maxHeartbeats 80000000 in
set_option maxRecDepth 100000 in
theorem rillmeterlaw15_many.calls (k : Nat) (A0 : Option Addr) (c0 : Nat) (l0 : List ByteArray) (a1 : ByteArray) (r : Int) (w : World) (hr0 : Kd.C Kd.string w A0 l0.length l0) (hc0 : l0.length ≤ c0) (h : rillmeterlaw15_many.f k l0 a1 = some r) :
    Calls Try.prog 24 #[.slice A0 l0.length c0, .string a1] w fun e w' => e = .returned (.int .i64 r) ∧ Drawn0 w w' := by
 have HR0 := mk_ hr0; have HC0 := mk_ hc0; clear hr0 hc0; have H : (rillmeterlaw15_many.l0 k a1 0 l0 (l0.length : Int) 0) = some r := h; clear h; have H' := mk_ H; clear H
 go_enter Try.func24, Try.ntmps24
 go_wp2
 go_loopg [5, 10] k (fun kq v5 aE w' => ∃ (aD : Int) (aA : Int), v5 = .int .i64 aD ∧ aE = .int .i64 aA ∧ Aside0 (rillmeterlaw15_many.l0 kq a1 aD l0 (l0.length : Int) aA = some r) ∧ Aside0 (kq ≤ k) ∧ Drawn0 w w')
 case atStart => exact ⟨(0), (0), (by first | rfl | (simp; done) | (simp [*]; done)), (by first | rfl | (simp; done) | (simp [*]; done)), H', ⟨Nat.le_refl _⟩, by repeat (first | exact Drawn0.refl _ | apply Drawn0.step)⟩
 case round =>
  clear H'; (try clear c2); (try clear p2); obtain ⟨aD, aA, rfl, rfl, HA, HK1, ⟨m1, rfl⟩⟩ := hrel
  cases gk with
  | zero => exact absurd HA.out (by simp [rillmeterlaw15_many.l0])
  | succ k1 =>
   have H := HA.out; clear HA; simp only [rillmeterlaw15_many.l0] at H
   by_cases c3 : aA < (l0.length : Int)
   ·rw [if_pos c3] at H; have aF : decide (aA < (l0.length : Int)) = true := decide_eq_true c3; clear c3
    by_cases c4 : 0 ≤ aA
    ·rw [if_pos c4] at H; have aK : decide (0 ≤ aA) = true := decide_eq_true c4; clear c4
     by_cases c5 : aA < (l0.length : Int)
     ·rw [if_pos c5] at H; have aL : decide (aA < (l0.length : Int)) = true := decide_eq_true c5; clear c5
      by_cases c6 : (rdOf ByteArray.empty l0 aA).toList = a1.toList
      ·rw [if_pos c6] at H; have aG : ((rdOf ByteArray.empty l0 aA).toList == a1.toList) = true := beq_iff_eq.mpr c6; have aH : ((rdOf ByteArray.empty l0 aA).toList != a1.toList) = false := bne_eq_false_iff_eq.mpr c6; clear c6; have H' := mk_ H; clear H; have aB : 0 ≤ (aA : Int) := of_decide_eq_true (by first | (with_reducible assumption) | assumption); have aC : aA < (l0.length : Int) := of_decide_eq_true (by first | (with_reducible assumption) | assumption); obtain ⟨aI, e369, aJ⟩ := Kd.at_string HR0.out aA aB aC
       cases e369; replace aB := eq_true aB; replace aC := eq_true aC
       go_wp2
       go_roundg k1
       case measure => have := HK1.out; omega
       case rel => exact ⟨(wrap64 (aD + 1)), (wrap64 (aA + 1)), (by first | rfl | (simp; done) | (simp [*]; done)), (by first | rfl | (simp; done) | (simp [*]; done)), H', ⟨by have := HK1.out; omega⟩, by repeat (first | exact Drawn0.refl _ | apply Drawn0.step)⟩
      ·rw [if_neg c6] at H; have aG : ((rdOf ByteArray.empty l0 aA).toList == a1.toList) = false := beq_eq_false_iff_ne.mpr c6; have aH : ((rdOf ByteArray.empty l0 aA).toList != a1.toList) = true := bne_iff_ne.mpr c6; have H' := mk_ H; clear H; have aB : 0 ≤ (aA : Int) := of_decide_eq_true (by first | (with_reducible assumption) | assumption); have aC : aA < (l0.length : Int) := of_decide_eq_true (by first | (with_reducible assumption) | assumption); obtain ⟨aI, e369, aJ⟩ := Kd.at_string HR0.out aA aB aC
       cases e369; replace aB := eq_true aB; replace aC := eq_true aC
       go_wp2
       go_roundg k1
       case measure => have := HK1.out; omega
       case rel => exact ⟨(aD), (wrap64 (aA + 1)), (by first | rfl | (simp; done) | (simp [*]; done)), (by first | rfl | (simp; done) | (simp [*]; done)), H', ⟨by have := HK1.out; omega⟩, by repeat (first | exact Drawn0.refl _ | apply Drawn0.step)⟩
     ·rw [if_neg c5] at H; exact absurd H (by simp)
    ·rw [if_neg c4] at H; exact absurd H (by simp)
   ·rw [if_neg c3] at H; have aF : decide (aA < (l0.length : Int)) = false := decide_eq_false c3; clear c3; obtain rfl := Option.some.inj H
    go_wp2
    go_ret; exact ⟨by first | rfl | (simp; done) | (simp [*]; done), by repeat (first | exact Drawn0.refl _ | apply Drawn0.step)⟩

/-! ### rillmeterref01_Mul: function 62 -/
def rillmeterref01_Mul.l0 : Nat → Int → Int → Int → Option (Int)
  | 0, _, _, _ => none
  | k + 1, x0, x1, x5 => if x1 > 0 then (if (Int.tmod x1 2) = 1 then (rillmeterref01_Mul.l0 k (Int.tmod (IntKind.u64.wrap (x0 + x0)) 2305843009213693951) (IntKind.u64.wrap (Int.tdiv x1 2)) (Int.tmod (IntKind.u64.wrap (x5 + x0)) 2305843009213693951)) else (rillmeterref01_Mul.l0 k (Int.tmod (IntKind.u64.wrap (x0 + x0)) 2305843009213693951) (IntKind.u64.wrap (Int.tdiv x1 2)) x5)) else (some x5)
def rillmeterref01_Mul.f (k : Nat) (a0 : Int) (a1 : Int) : Option (Int) := rillmeterref01_Mul.l0 k (Int.tmod a0 2305843009213693951) (Int.tmod a1 2305843009213693951) 0
theorem rillmeterref01_Mul.mono_l : ∀ k, (∀ y0 y1 y2, LeO (rillmeterref01_Mul.l0 k y0 y1 y2) (rillmeterref01_Mul.l0 (k + 1) y0 y1 y2))
  | 0 => fun _ _ _ r h => by simp [rillmeterref01_Mul.l0] at h
  | k + 1 => by
    have ih0 := rillmeterref01_Mul.mono_l k
    · intro y0 y1 y2
      unfold rillmeterref01_Mul.l0
      repeat' first
      | (with_reducible exact ih0 _ _ _)
      | (with_reducible exact LeO.refl _)
      | (with_reducible exact LeO.none _)
      | (with_reducible refine LeO.ite ?_ ?_)
      | (with_reducible refine LeO.bind ?_ (fun _ => ?_))
      | exact ih0 _ _ _
      | exact LeO.none _
      | refine LeO.ite ?_ ?_
      | refine LeO.bind ?_ (fun _ => ?_)
theorem rillmeterref01_Mul.mono : ∀ a0 a1 k, LeO (rillmeterref01_Mul.f k a0 a1) (rillmeterref01_Mul.f (k + 1) a0 a1) := by
  intro a0 a1 k
  have ih0 := rillmeterref01_Mul.mono_l k
  unfold rillmeterref01_Mul.f
  repeat' first
      | (with_reducible exact ih0 _ _ _)
      | (with_reducible exact LeO.refl _)
      | (with_reducible exact LeO.none _)
      | (with_reducible refine LeO.ite ?_ ?_)
      | (with_reducible refine LeO.bind ?_ (fun _ => ?_))
      | exact ih0 _ _ _
      | exact LeO.none _
      | refine LeO.ite ?_ ?_
      | refine LeO.bind ?_ (fun _ => ?_)
set_option maxHeartbeats 80000000 in
set_option maxRecDepth 100000 in
theorem rillmeterref01_Mul.calls (k : Nat) (a0 : Int) (a1 : Int) (r : Int) (w : World) (h : rillmeterref01_Mul.f k a0 a1 = some r) :
    Calls Try.prog 62 #[.int .u64 a0, .int .u64 a1] w fun e w' => e = .returned (.int .u64 r) ∧ Drawn0 w w' := by
 have H : (rillmeterref01_Mul.l0 k (Int.tmod a0 2305843009213693951) (Int.tmod a1 2305843009213693951) 0) = some r := h; clear h; have H' := mk_ H; clear H
 go_enter Try.func62, Try.ntmps62
 go_wp2
 go_loopg [0, 1, 5] k (fun kq v0 v1 v5 w' => ∃ (aB : Int) (aA : Int) (aC : Int), v0 = .int .u64 aB ∧ v1 = .int .u64 aA ∧ v5 = .int .u64 aC ∧ Aside0 (rillmeterref01_Mul.l0 kq aB aA aC = some r) ∧ Aside0 (kq ≤ k) ∧ Drawn0 w w')
 case atStart => exact ⟨(Int.tmod a0 2305843009213693951), (Int.tmod a1 2305843009213693951), (0), (by first | rfl | (simp; done) | (simp [*]; done)), (by first | rfl | (simp; done) | (simp [*]; done)), (by first | rfl | (simp; done) | (simp [*]; done)), H', ⟨Nat.le_refl _⟩, by repeat (first | exact Drawn0.refl _ | apply Drawn0.step)⟩
 case round =>
  clear H'; (try clear p2); obtain ⟨aB, aA, aC, rfl, rfl, rfl, HA, HK1, ⟨m1, rfl⟩⟩ := hrel
  cases gk with
  | zero => exact absurd HA.out (by simp [rillmeterref01_Mul.l0])
  | succ k1 =>
   have H := HA.out; clear HA; simp only [rillmeterref01_Mul.l0] at H
   by_cases c3 : aA > 0
   ·rw [if_pos c3] at H; have aD : decide (0 < aA) = true := decide_eq_true c3; clear c3
    by_cases c4 : (Int.tmod aA 2) = 1
    ·rw [if_pos c4] at H; have aE : ((Int.tmod aA 2) == 1) = true := beq_iff_eq.mpr c4; have aF : ((Int.tmod aA 2) != 1) = false := bne_eq_false_iff_eq.mpr c4; clear c4; have H' := mk_ H; clear H
     go_wp2
     go_roundg k1
     case measure => have := HK1.out; omega
     case rel => exact ⟨(Int.tmod (IntKind.u64.wrap (aB + aB)) 2305843009213693951), (IntKind.u64.wrap (Int.tdiv aA 2)), (Int.tmod (IntKind.u64.wrap (aC + aB)) 2305843009213693951), (by first | rfl | (simp; done) | (simp [*]; done)), (by first | rfl | (simp; done) | (simp [*]; done)), (by first | rfl | (simp; done) | (simp [*]; done)), H', ⟨by have := HK1.out; omega⟩, by repeat (first | exact Drawn0.refl _ | apply Drawn0.step)⟩
    ·rw [if_neg c4] at H; have aE : ((Int.tmod aA 2) == 1) = false := beq_eq_false_iff_ne.mpr c4; have aF : ((Int.tmod aA 2) != 1) = true := bne_iff_ne.mpr c4; have H' := mk_ H; clear H
     go_wp2
     go_roundg k1
     case measure => have := HK1.out; omega
     case rel => exact ⟨(Int.tmod (IntKind.u64.wrap (aB + aB)) 2305843009213693951), (IntKind.u64.wrap (Int.tdiv aA 2)), (aC), (by first | rfl | (simp; done) | (simp [*]; done)), (by first | rfl | (simp; done) | (simp [*]; done)), (by first | rfl | (simp; done) | (simp [*]; done)), H', ⟨by have := HK1.out; omega⟩, by repeat (first | exact Drawn0.refl _ | apply Drawn0.step)⟩
   ·rw [if_neg c3] at H; have aD : decide (0 < aA) = false := decide_eq_false c3; clear c3; obtain rfl := Option.some.inj H
    go_wp2
    go_ret; exact ⟨by first | rfl | (simp; done) | (simp [*]; done), by repeat (first | exact Drawn0.refl _ | apply Drawn0.step)⟩

/-! ### rillmeterref01_Add: function 63 -/
def rillmeterref01_Add.f (a0 : Int) (a1 : Int) : Option (Int) := some (Int.tmod (IntKind.u64.wrap ((Int.tmod a0 2305843009213693951) + (Int.tmod a1 2305843009213693951))) 2305843009213693951)
set_option maxHeartbeats 80000000 in
set_option maxRecDepth 100000 in
theorem rillmeterref01_Add.calls (a0 : Int) (a1 : Int) (r : Int) (w : World) (h : rillmeterref01_Add.f a0 a1 = some r) :
    Calls Try.prog 63 #[.int .u64 a0, .int .u64 a1] w fun e w' => e = .returned (.int .u64 r) ∧ Drawn0 w w' := by
 have H : (some (Int.tmod (IntKind.u64.wrap ((Int.tmod a0 2305843009213693951) + (Int.tmod a1 2305843009213693951))) 2305843009213693951)) = some r := h; clear h; obtain rfl := Option.some.inj H
 go_enter Try.func63, Try.ntmps63
 go_wp2
 go_ret; exact ⟨by first | rfl | (simp; done) | (simp [*]; done), by repeat (first | exact Drawn0.refl _ | apply Drawn0.step)⟩

/-! ### rillmeterref01_Pow: function 64 -/
def rillmeterref01_Pow.f : Nat → Int → Int → Option (Int)
  | 0, _, _ => none
  | k + 1, a0, a1 => if a1 = 0 then (some 1) else ((rillmeterref01_Pow.f k a0 (IntKind.u64.wrap (Int.tdiv a1 2))).bind fun t370 => ((rillmeterref01_Mul.f k t370 t370).bind fun t371 => (if (Int.tmod a1 2) = 1 then ((rillmeterref01_Mul.f k t371 a0).bind fun t372 => (some t372)) else (some t371))))
theorem rillmeterref01_Pow.mono_l : ∀ k, (∀ y0 y1, LeO (rillmeterref01_Pow.f k y0 y1) (rillmeterref01_Pow.f (k + 1) y0 y1))
  | 0 => fun _ _ r h => by simp [rillmeterref01_Pow.f] at h
  | k + 1 => by
    have ih0 := rillmeterref01_Pow.mono_l k
    · intro y0 y1
      unfold rillmeterref01_Pow.f
      repeat' first
      | (with_reducible exact ih0 _ _)
      | (with_reducible exact rillmeterref01_Mul.mono _ _ _)
      | (with_reducible exact LeO.refl _)
      | (with_reducible exact LeO.none _)
      | (with_reducible refine LeO.ite ?_ ?_)
      | (with_reducible refine LeO.bind ?_ (fun _ => ?_))
      | exact ih0 _ _
      | exact rillmeterref01_Mul.mono _ _ _
      | exact LeO.none _
      | refine LeO.ite ?_ ?_
      | refine LeO.bind ?_ (fun _ => ?_)
theorem rillmeterref01_Pow.mono : ∀ a0 a1 k, LeO (rillmeterref01_Pow.f k a0 a1) (rillmeterref01_Pow.f (k + 1) a0 a1) := by
  intro a0 a1 k
  have ih0 := rillmeterref01_Pow.mono_l k
  exact ih0 a0 a1
set_option maxHeartbeats 80000000 in
set_option maxRecDepth 100000 in
theorem rillmeterref01_Pow.calls (k : Nat) : ∀ (a0 : Int) (a1 : Int) (r : Int) (w : World) (h : rillmeterref01_Pow.f k a0 a1 = some r),
    Calls Try.prog 64 #[.int .u64 a0, .int .u64 a1] w fun e w' => e = .returned (.int .u64 r) ∧ Drawn0 w w' := by
 induction k using Nat.strongRecOn with
 | _ k ih =>
 intro a0 a1 r w h
 cases k with
 | zero => exact absurd h (by simp [rillmeterref01_Pow.f])
 | succ k =>
 simp only [rillmeterref01_Pow.f] at h; have H : (if a1 = 0 then (some 1) else ((rillmeterref01_Pow.f k a0 (IntKind.u64.wrap (Int.tdiv a1 2))).bind fun aA => ((rillmeterref01_Mul.f k aA aA).bind fun aB => (if (Int.tmod a1 2) = 1 then ((rillmeterref01_Mul.f k aB a0).bind fun aC => (some aC)) else (some aB))))) = some r := h; clear h
 by_cases c3 : a1 = 0
 ·rw [if_pos c3] at H; have aG : (a1 == 0) = true := beq_iff_eq.mpr c3; have aH : (a1 != 0) = false := bne_eq_false_iff_eq.mpr c3; clear c3; obtain rfl := Option.some.inj H
  go_enter Try.func64, Try.ntmps64
  go_wp2
  go_ret; exact ⟨by first | rfl | (simp; done) | (simp [*]; done), by repeat (first | exact Drawn0.refl _ | apply Drawn0.step)⟩
 ·rw [if_neg c3] at H; have aG : (a1 == 0) = false := beq_eq_false_iff_ne.mpr c3; have aH : (a1 != 0) = true := bne_iff_ne.mpr c3; replace H := Option.bind_eq_some_iff.mp H; obtain ⟨aA, aD, H⟩ := H; replace H : ((rillmeterref01_Mul.f k aA aA).bind fun aB => (if (Int.tmod a1 2) = 1 then ((rillmeterref01_Mul.f k aB a0).bind fun aC => (some aC)) else (some aB))) = some r := H; have A4 := mk_ aD; clear aD; replace H := Option.bind_eq_some_iff.mp H; obtain ⟨aB, aE, H⟩ := H; replace H : (if (Int.tmod a1 2) = 1 then ((rillmeterref01_Mul.f k aB a0).bind fun aC => (some aC)) else (some aB)) = some r := H; have A5 := mk_ aE; clear aE
  by_cases c6 : (Int.tmod a1 2) = 1
  ·rw [if_pos c6] at H; have aI : ((Int.tmod a1 2) == 1) = true := beq_iff_eq.mpr c6; have aJ : ((Int.tmod a1 2) != 1) = false := bne_eq_false_iff_eq.mpr c6; clear c6; replace H := Option.bind_eq_some_iff.mp H; obtain ⟨aC, aF, H⟩ := H; replace H : (some aC) = some r := H; have A7 := mk_ aF; clear aF; obtain rfl := Option.some.inj H
   go_enter Try.func64, Try.ntmps64
   go_wp2_with (first | ((with_reducible refine gate_callee (f := 64) rfl ?_); refine goesL_ (some 11) rfl rfl Try.func64 (by kernel_rfl) rfl #[.int .u64 a0, .int .u64 (IntKind.u64.wrap (Int.tdiv a1 2))] rfl (by (try simp only [List.map_toArray, List.map_cons, List.map_nil]); first | done | rfl | (simp only [List.length_drop, List.length_take]; rfl)) ?_; (with_reducible refine (ih k (by omega) a0 (IntKind.u64.wrap (Int.tdiv a1 2)) aA _ A4.out).mono ?_); rintro e w' ⟨rfl, ⟨nd, rfl⟩⟩; refine ⟨_, rfl, ?_⟩) | ((with_reducible refine gate_callee (f := 62) rfl ?_); refine goesL_ (some 14) rfl rfl Try.func62 (by kernel_rfl) rfl #[.int .u64 aA, .int .u64 aA] rfl (by (try simp only [List.map_toArray, List.map_cons, List.map_nil]); first | done | rfl | (simp only [List.length_drop, List.length_take]; rfl)) ?_; (with_reducible refine (rillmeterref01_Mul.calls k aA aA aB _ A5.out).mono ?_); rintro e w' ⟨rfl, ⟨nd, rfl⟩⟩; refine ⟨_, rfl, ?_⟩) | ((with_reducible refine gate_callee (f := 62) rfl ?_); refine goesL_ (some 20) rfl rfl Try.func62 (by kernel_rfl) rfl #[.int .u64 aB, .int .u64 a0] rfl (by (try simp only [List.map_toArray, List.map_cons, List.map_nil]); first | done | rfl | (simp only [List.length_drop, List.length_take]; rfl)) ?_; (with_reducible refine (rillmeterref01_Mul.calls k aB a0 aC _ A7.out).mono ?_); rintro e w' ⟨rfl, ⟨nd, rfl⟩⟩; refine ⟨_, rfl, ?_⟩))
   go_ret; exact ⟨by first | rfl | (simp; done) | (simp [*]; done), by repeat (first | exact Drawn0.refl _ | apply Drawn0.step)⟩
  ·rw [if_neg c6] at H; have aI : ((Int.tmod a1 2) == 1) = false := beq_eq_false_iff_ne.mpr c6; have aJ : ((Int.tmod a1 2) != 1) = true := bne_iff_ne.mpr c6; obtain rfl := Option.some.inj H
   go_enter Try.func64, Try.ntmps64
   go_wp2_with (first | ((with_reducible refine gate_callee (f := 64) rfl ?_); refine goesL_ (some 11) rfl rfl Try.func64 (by kernel_rfl) rfl #[.int .u64 a0, .int .u64 (IntKind.u64.wrap (Int.tdiv a1 2))] rfl (by (try simp only [List.map_toArray, List.map_cons, List.map_nil]); first | done | rfl | (simp only [List.length_drop, List.length_take]; rfl)) ?_; (with_reducible refine (ih k (by omega) a0 (IntKind.u64.wrap (Int.tdiv a1 2)) aA _ A4.out).mono ?_); rintro e w' ⟨rfl, ⟨nd, rfl⟩⟩; refine ⟨_, rfl, ?_⟩) | ((with_reducible refine gate_callee (f := 62) rfl ?_); refine goesL_ (some 14) rfl rfl Try.func62 (by kernel_rfl) rfl #[.int .u64 aA, .int .u64 aA] rfl (by (try simp only [List.map_toArray, List.map_cons, List.map_nil]); first | done | rfl | (simp only [List.length_drop, List.length_take]; rfl)) ?_; (with_reducible refine (rillmeterref01_Mul.calls k aA aA aB _ A5.out).mono ?_); rintro e w' ⟨rfl, ⟨nd, rfl⟩⟩; refine ⟨_, rfl, ?_⟩))
   go_ret; exact ⟨by first | rfl | (simp; done) | (simp [*]; done), by repeat (first | exact Drawn0.refl _ | apply Drawn0.step)⟩

/-! ### rillmeterref02_Row: function 40 -/
def rillmeterref02_Row.j0 : Nat → Int → Int → Option (Int)
  | 0, _, _ => none
  | k + 1, x0, x1 => (rillmeterref01_Add.f x0 3).bind fun t373 => ((rillmeterref01_Add.f (IntKind.u64.wrap (x1)) 2).bind fun t374 => ((rillmeterref01_Mul.f k t373 t374).bind fun t375 => ((rillmeterref01_Add.f t375 5).bind fun t376 => ((rillmeterref01_Pow.f k t376 2).bind fun t377 => (some t377)))))
def rillmeterref02_Row.f (k : Nat) (a0 : Int) (a1 : Int) : Option (Int) := if a1 < 0 then (rillmeterref02_Row.j0 k a0 0) else (rillmeterref02_Row.j0 k a0 a1)
theorem rillmeterref02_Row.mono_l : ∀ k, (∀ y0 y1, LeO (rillmeterref02_Row.j0 k y0 y1) (rillmeterref02_Row.j0 (k + 1) y0 y1))
  | 0 => fun _ _ r h => by simp [rillmeterref02_Row.j0] at h
  | k + 1 => by
    have ih0 := rillmeterref02_Row.mono_l k
    · intro y0 y1
      unfold rillmeterref02_Row.j0
      repeat' first
      | (with_reducible exact ih0 _ _)
      | (with_reducible exact rillmeterref01_Mul.mono _ _ _)
      | (with_reducible exact rillmeterref01_Pow.mono _ _ _)
      | (with_reducible exact LeO.refl _)
      | (with_reducible exact LeO.none _)
      | (with_reducible refine LeO.ite ?_ ?_)
      | (with_reducible refine LeO.bind ?_ (fun _ => ?_))
      | exact ih0 _ _
      | exact rillmeterref01_Mul.mono _ _ _
      | exact rillmeterref01_Pow.mono _ _ _
      | exact LeO.none _
      | refine LeO.ite ?_ ?_
      | refine LeO.bind ?_ (fun _ => ?_)
theorem rillmeterref02_Row.mono : ∀ a0 a1 k, LeO (rillmeterref02_Row.f k a0 a1) (rillmeterref02_Row.f (k + 1) a0 a1) := by
  intro a0 a1 k
  have ih0 := rillmeterref02_Row.mono_l k
  unfold rillmeterref02_Row.f
  repeat' first
      | (with_reducible exact ih0 _ _)
      | (with_reducible exact rillmeterref01_Mul.mono _ _ _)
      | (with_reducible exact rillmeterref01_Pow.mono _ _ _)
      | (with_reducible exact LeO.refl _)
      | (with_reducible exact LeO.none _)
      | (with_reducible refine LeO.ite ?_ ?_)
      | (with_reducible refine LeO.bind ?_ (fun _ => ?_))
      | exact ih0 _ _
      | exact rillmeterref01_Mul.mono _ _ _
      | exact rillmeterref01_Pow.mono _ _ _
      | exact LeO.none _
      | refine LeO.ite ?_ ?_
      | refine LeO.bind ?_ (fun _ => ?_)
set_option maxHeartbeats 80000000 in
set_option maxRecDepth 100000 in
theorem rillmeterref02_Row.calls (k : Nat) (a0 : Int) (a1 : Int) (r : Int) (w : World) (h : rillmeterref02_Row.f k a0 a1 = some r) :
    Calls Try.prog 40 #[.int .u64 a0, .int .i64 a1] w fun e w' => e = .returned (.int .u64 r) ∧ Drawn0 w w' := by
 have H : (if a1 < 0 then (rillmeterref02_Row.j0 k a0 0) else (rillmeterref02_Row.j0 k a0 a1)) = some r := h; clear h; have HC3 := mk_ H; clear H
 go_enter Try.func40, Try.ntmps40
 go_upto_if 7 with (fail)
 go_cut [1] (fun v1 wc => ∃ (kq : Nat) (aE : Int), v1 = .int .i64 aE ∧ Aside0 (rillmeterref02_Row.j0 kq a0 aE = some r) ∧ Aside0 (kq ≤ k) ∧ Drawn0 w wc)
 case first =>
  have H := HC3.out; clear HC3
  by_cases c4 : a1 < 0
  ·rw [if_pos c4] at H; have aF : decide (a1 < 0) = true := decide_eq_true c4; clear c4
   (first | rw [aF] | (simp only [i64_w, i32_w]; rw [aF]) | skip)
   have H' := mk_ H; clear H
   go_wp2
   go_meet
   case rel => exact ⟨_, (0), (by first | rfl | (simp; done) | (simp [*]; done)), H', ⟨by first | omega | exact Nat.le_refl _⟩, by repeat (first | exact Drawn0.refl _ | apply Drawn0.step)⟩
  ·rw [if_neg c4] at H; have aF : decide (a1 < 0) = false := decide_eq_false c4; clear c4
   (first | rw [aF] | (simp only [i64_w, i32_w]; rw [aF]) | skip)
   have H' := mk_ H; clear H
   go_wp2
   go_meet
   case rel => exact ⟨_, (a1), (by first | rfl | (simp; done) | (simp [*]; done)), H', ⟨by first | omega | exact Nat.le_refl _⟩, by repeat (first | exact Drawn0.refl _ | apply Drawn0.step)⟩
 case rest =>
  clear HC3; (try clear p2); (try clear c4); (try clear aF); obtain ⟨kq, aE, rfl, HA, HJ2, ⟨mc2, rfl⟩⟩ := hcut
  cases kq with
  | zero => exact absurd HA.out (by simp [rillmeterref02_Row.j0])
  | succ aC =>
   have H := HA.out; clear HA; simp only [rillmeterref02_Row.j0] at H; replace H := Option.bind_eq_some_iff.mp H; obtain ⟨aH, aI, H⟩ := H; replace H : ((rillmeterref01_Add.f (IntKind.u64.wrap (aE)) 2).bind fun aG => ((rillmeterref01_Mul.f aC aH aG).bind fun aD => ((rillmeterref01_Add.f aD 5).bind fun aA => ((rillmeterref01_Pow.f aC aA 2).bind fun aB => (some aB))))) = some r := H; have A5 := mk_ aI; clear aI; replace H := Option.bind_eq_some_iff.mp H; obtain ⟨aG, aJ, H⟩ := H; replace H : ((rillmeterref01_Mul.f aC aH aG).bind fun aD => ((rillmeterref01_Add.f aD 5).bind fun aA => ((rillmeterref01_Pow.f aC aA 2).bind fun aB => (some aB)))) = some r := H; have A6 := mk_ aJ; clear aJ; replace H := Option.bind_eq_some_iff.mp H; obtain ⟨aD, aK, H⟩ := H; replace H : ((rillmeterref01_Add.f aD 5).bind fun aA => ((rillmeterref01_Pow.f aC aA 2).bind fun aB => (some aB))) = some r := H; have A7 := mk_ aK; clear aK; replace H := Option.bind_eq_some_iff.mp H; obtain ⟨aA, aL, H⟩ := H; replace H : ((rillmeterref01_Pow.f aC aA 2).bind fun aB => (some aB)) = some r := H; have A8 := mk_ aL; clear aL; replace H := Option.bind_eq_some_iff.mp H; obtain ⟨aB, aM, H⟩ := H; replace H : (some aB) = some r := H; have A9 := mk_ aM; clear aM; obtain rfl := Option.some.inj H
   go_wp2_with (first | ((with_reducible refine gate_callee (f := 63) rfl ?_); refine goesL_ (some 9) rfl rfl Try.func63 (by kernel_rfl) rfl #[.int .u64 a0, .int .u64 3] rfl (by (try simp only [List.map_toArray, List.map_cons, List.map_nil]); first | done | rfl | (simp only [List.length_drop, List.length_take]; rfl)) ?_; (with_reducible refine (rillmeterref01_Add.calls a0 3 aH _ A5.out).mono ?_); rintro e w' ⟨rfl, ⟨nd, rfl⟩⟩; refine ⟨_, rfl, ?_⟩) | ((with_reducible refine gate_callee (f := 63) rfl ?_); refine goesL_ (some 12) rfl rfl Try.func63 (by kernel_rfl) rfl #[.int .u64 (IntKind.u64.wrap (aE)), .int .u64 2] rfl (by (try simp only [List.map_toArray, List.map_cons, List.map_nil]); first | done | rfl | (simp only [List.length_drop, List.length_take]; rfl)) ?_; (with_reducible refine (rillmeterref01_Add.calls (IntKind.u64.wrap (aE)) 2 aG _ A6.out).mono ?_); rintro e w' ⟨rfl, ⟨nd, rfl⟩⟩; refine ⟨_, rfl, ?_⟩) | ((with_reducible refine gate_callee (f := 62) rfl ?_); refine goesL_ (some 13) rfl rfl Try.func62 (by kernel_rfl) rfl #[.int .u64 aH, .int .u64 aG] rfl (by (try simp only [List.map_toArray, List.map_cons, List.map_nil]); first | done | rfl | (simp only [List.length_drop, List.length_take]; rfl)) ?_; (with_reducible refine (rillmeterref01_Mul.calls aC aH aG aD _ A7.out).mono ?_); rintro e w' ⟨rfl, ⟨nd, rfl⟩⟩; refine ⟨_, rfl, ?_⟩) | ((with_reducible refine gate_callee (f := 63) rfl ?_); refine goesL_ (some 15) rfl rfl Try.func63 (by kernel_rfl) rfl #[.int .u64 aD, .int .u64 5] rfl (by (try simp only [List.map_toArray, List.map_cons, List.map_nil]); first | done | rfl | (simp only [List.length_drop, List.length_take]; rfl)) ?_; (with_reducible refine (rillmeterref01_Add.calls aD 5 aA _ A8.out).mono ?_); rintro e w' ⟨rfl, ⟨nd, rfl⟩⟩; refine ⟨_, rfl, ?_⟩) | ((with_reducible refine gate_callee (f := 64) rfl ?_); refine goesL_ (some 16) rfl rfl Try.func64 (by kernel_rfl) rfl #[.int .u64 aA, .int .u64 2] rfl (by (try simp only [List.map_toArray, List.map_cons, List.map_nil]); first | done | rfl | (simp only [List.length_drop, List.length_take]; rfl)) ?_; (with_reducible refine (rillmeterref01_Pow.calls aC aA 2 aB _ A9.out).mono ?_); rintro e w' ⟨rfl, ⟨nd, rfl⟩⟩; refine ⟨_, rfl, ?_⟩))
   go_ret; exact ⟨by first | rfl | (simp; done) | (simp [*]; done), by repeat (first | exact Drawn0.refl _ | apply Drawn0.step)⟩

/-! ### rillmeterref01_Of: function 81 -/
def rillmeterref01_Of.f (a0 : Int) : Option (Int) := some (Int.tmod a0 2305843009213693951)
set_option maxHeartbeats 80000000 in
set_option maxRecDepth 100000 in
theorem rillmeterref01_Of.calls (a0 : Int) (r : Int) (w : World) (h : rillmeterref01_Of.f a0 = some r) :
    Calls Try.prog 81 #[.int .u64 a0] w fun e w' => e = .returned (.int .u64 r) ∧ Drawn0 w w' := by
 have H : (some (Int.tmod a0 2305843009213693951)) = some r := h; clear h; obtain rfl := Option.some.inj H
 go_enter Try.func81, Try.ntmps81
 go_wp2
 go_ret; exact ⟨by first | rfl | (simp; done) | (simp [*]; done), by repeat (first | exact Drawn0.refl _ | apply Drawn0.step)⟩

end Go.Proofs.Ytljmjjeghebdpaa.PElasticFew
