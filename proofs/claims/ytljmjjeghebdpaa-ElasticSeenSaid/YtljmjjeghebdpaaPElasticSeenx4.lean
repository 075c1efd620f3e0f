/- The functions that a law uses, each as a plain function, with the proof that a call of the Go function comes to its answer. Condition of each: the arguments read as the data that it names, and the plain function has an answer. Written by a program of this session (standin.py). -/
import Derived.Test.YtljmjjeghebdpaaPElasticSeenx0
import Derived.Test.YtljmjjeghebdpaaPElasticSeenx2
import Derived.Test.YtljmjjeghebdpaaPElasticSeenx3
import Derived.Test.YtljmjjeghebdpaaShort
import Derived.Lib.SliceRun
import Derived.Test.YtljmjjeghebdpaaPressMore
namespace Go.Proofs.Ytljmjjeghebdpaa.PElasticSeen
open Go.RowKit Go.Proofs.YtljmjjeghebdpaaW.PrintWords Go.Proofs.YtljmjjeghebdpaaW.PrintLast Go.Proofs.YtljmjjeghebdpaaW.PrintMore Go.Proofs.Ytljmjjeghebdpaa.Short Go.Proofs.Ytljmjjeghebdpaa.Press Go.Proofs.Ytljmjjeghebdpaa.PressMore
attribute [local go_sem] max2_int min2_int max_two min_two max_three min_three max_four min_four   -- for this text's walks alone
set_option linter.unusedVariables false
set_option linter.unusedSimpArgs false

/-! ### elastic_Right: function 15 -/
def elastic_Right.f (k : Nat) (a0_0 : Int) (a0_1 : Int) (a0_2 : Int) (l0_3 : List (S56)) (a0_4 : Int) (a0_5 : Int) (l0_6 : List (List Int)) : Option (Bool) := if a0_1 ≥ 1 then (if a0_1 ≤ 8 then (if a0_2 ≥ 1 then (if a0_2 ≤ 64 then (if (l0_3.length : Int) ≥ 1 then (if (l0_3.length : Int) ≤ 256 then ((least_Right.f k a0_4 a0_5 l0_6).bind fun t130 => (if t130 = true then ((hash_Row.f a0_0 1).bind fun t131 => (if a0_4 = t131 then (if a0_5 = 255 then ((elastic_Bucket_44.f k l0_3 a0_1).bind fun t132 => (some (!t132))) else (some false)) else (some false))) else (some false))) else (some false)) else (some false)) else (some false)) else (some false)) else (some false)) else (some false)
theorem elastic_Right.mono : ∀ a0 a1 a2 a3 a4 a5 a6 k, LeO (elastic_Right.f k a0 a1 a2 a3 a4 a5 a6) (elastic_Right.f (k + 1) a0 a1 a2 a3 a4 a5 a6) := by
  intro a0 a1 a2 a3 a4 a5 a6 k
  unfold elastic_Right.f
  repeat' first | (with_reducible first | exact elastic_Bucket_44.mono _ _ _ | exact least_Right.mono _ _ _ _ | exact LeO.refl _ | exact LeO.none _ | refine LeO.ite ?_ ?_ | refine LeO.bind ?_ (fun _ => ?_)) | exact elastic_Bucket_44.mono _ _ _ | exact least_Right.mono _ _ _ _ | exact LeO.none _ | refine LeO.ite ?_ ?_ | refine LeO.bind ?_ (fun _ => ?_)
def elastic_Right.T1 : Bool × List (List Nat × List Nat) := (true, [([], []), ([0], [0]), ([1], [1]), ([2], [2]), ([3], [3]), ([4, 3], [3, 4]), ([5, 3], [3, 5]), ([3, 6], [3, 6]), ([7, 3], [7]), ([8], [8]), ([9, 8], [8, 9]), ([10, 8], [8, 10]), ([8, 11], [8, 11]), ([12, 8], [12]), ([13], [13]), ([14, 13], [13, 14]), ([15, 13], [13, 15]), ([13, 16], [13, 16]), ([17, 13], [17]), ([18], [18]), ([19, 18], [18, 19]), ([20, 18], [18, 20]), ([21, 18], [18, 21]), ([18, 22], [18, 22]), ([23, 18], [23]), ([24], [24]), ([25, 24], [24, 25]), ([26, 24], [24, 26]), ([27, 24], [24, 27]), ([24, 28], [24, 28]), ([29, 24], [29]), ([30], [30]), ([31, 30], [30, 31]), ([32, 30, 30], [30, 32]), ([30, 33], [30, 33]), ([34, 33], [34]), ([35], [35]), ([36, 35], [35, 36]), ([37, 35], [35, 37]), ([35], [35]), ([39, 35], [35, 39]), ([40, 35, 35], [35, 40]), ([38, 41, 35], [35, 38, 41]), ([35, 42], [35, 42]), ([43, 41], [43]), ([44], [44]), ([45, 44], [44, 45]), ([46, 44], [44, 46]), ([47, 44], [44, 47]), ([44, 48], [44, 48]), ([49, 44], [49]), ([50], [50]), ([51, 50], [50, 51]), ([50], [50]), ([52, 53, 50, 50], [50, 52, 53]), ([54, 50], [50, 54]), ([50, 55], [50, 55]), ([56, 54, 0, 1, 2, 3, 4, 5, 6, 7, 8, 9, 10, 11, 12, 13, 14, 15, 16, 17, 18, 19, 20, 21, 22, 23, 24, 25, 26, 27, 28, 29, 30, 31, 32, 33, 34, 35, 36, 37, 38, 39, 40, 41, 42, 43, 44, 45, 46, 47, 48, 49, 50, 51, 52, 53, 54, 55, 56], [56])])
def elastic_Right.B1 : List Nat := [0, 1, 3, 7, 15, 31, 63, 127, 255, 511, 1023, 2047, 4095, 8191, 16383, 32767, 65535, 131071, 262143, 524287, 1048575, 2097151, 4194303, 8388607, 16777215, 33554431, 67108863, 134217727, 268435455, 536870911, 1073741823, 2147483647, 4294967295, 8589934591, 17179869183, 34359738367, 68719476735, 137438953471, 274877906943, 68719476735, 618475290623, 1717986918399, 4398046511103, 8796093022207, 17592186044415, 35184372088831, 70368744177663, 140737488355327, 281474976710655, 562949953421311, 1125899906842623, 2251799813685247, 4503599627370495, 2251799813685247, 18014398509481983, 36028797018963967, 72057594037927935, 144115188075855871]
theorem elastic_Right.tab1 : rtab .any (opsOf Try.f15 1) = elastic_Right.T1 := by kernel_rfl
theorem elastic_Right.bits1 : waitsOk elastic_Right.T1.2 elastic_Right.B1 = true := by kernel_rfl
set_option maxHeartbeats 80000000 in
set_option maxRecDepth 100000 in
theorem elastic_Right.calls (k : Nat) (a0_0 : Int) (a0_1 : Int) (a0_2 : Int) (A0_3 : Option Addr) (c0_3 : Nat) (l0_3 : List (S56)) (a0_4 : Int) (a0_5 : Int) (A0_6 : Option Addr) (c0_6 : Nat) (l0_6 : List (List Int)) (r : Bool) (w : World) (hr0_3 : Kd.C k56 w A0_3 l0_3.length l0_3) (hc0_3 : l0_3.length ≤ c0_3) (hr0_6 : Kd.C (Kd.slice 3 (Kd.int .i64)) w A0_6 l0_6.length l0_6) (hc0_6 : l0_6.length ≤ c0_6) (h : elastic_Right.f k a0_0 a0_1 a0_2 l0_3 a0_4 a0_5 l0_6 = some r) :
    Calls Try.prog 15 #[.agg #[.int .u64 a0_0, .int .i64 a0_1, .int .i64 a0_2, .slice A0_3 l0_3.length c0_3, .int .u64 a0_4, .int .i64 a0_5, .slice A0_6 l0_6.length c0_6]] w fun e w' => e = .returned (.bool r) ∧ Below w.heap.size w w' := by
 have hu28 := Try.underlying28; have hu26 := Try.underlying26; have aP := mk_ hr0_3; have aQ := mk_ hc0_3; clear hr0_3 hc0_3; have aI := mk_ hr0_6; have aJ := mk_ hc0_6; clear hr0_6 hc0_6; have HB := mk_ (Below.refl w.heap.size w); have H : (if a0_1 ≥ 1 then (if a0_1 ≤ 8 then (if a0_2 ≥ 1 then (if a0_2 ≤ 64 then (if (l0_3.length : Int) ≥ 1 then (if (l0_3.length : Int) ≤ 256 then ((least_Right.f k a0_4 a0_5 l0_6).bind fun aK => (if aK = true then ((hash_Row.f a0_0 1).bind fun aC => (if a0_4 = aC then (if a0_5 = 255 then ((elastic_Bucket_44.f k l0_3 a0_1).bind fun aD => (some (!aD))) else (some false)) else (some false))) else (some false))) else (some false)) else (some false)) else (some false)) else (some false)) else (some false)) else (some false)) = some r := h; clear h
 by_cases c2 : a0_1 ≥ 1
 ·rw [if_pos c2] at H; have aR : decide (1 ≤ a0_1) = true := decide_eq_true c2; clear c2
  by_cases c3 : a0_1 ≤ 8
  ·rw [if_pos c3] at H; have aS : decide (a0_1 ≤ 8) = true := decide_eq_true c3; clear c3
   by_cases c4 : a0_2 ≥ 1
   ·rw [if_pos c4] at H; have aT : decide (1 ≤ a0_2) = true := decide_eq_true c4; clear c4
    by_cases c5 : a0_2 ≤ 64
    ·rw [if_pos c5] at H; have aU : decide (a0_2 ≤ 64) = true := decide_eq_true c5; clear c5
     by_cases c6 : (l0_3.length : Int) ≥ 1
     ·rw [if_pos c6] at H; have aV : decide (1 ≤ (l0_3.length : Int)) = true := decide_eq_true c6; have aW : decide (1 ≤ l0_3.length) = true := decide_eq_true (by omega); clear c6
      by_cases c7 : (l0_3.length : Int) ≤ 256
      ·rw [if_pos c7] at H; have aX : decide ((l0_3.length : Int) ≤ 256) = true := decide_eq_true c7; have aY : decide (l0_3.length ≤ 256) = true := decide_eq_true (by omega); clear c7; replace H := Option.bind_eq_some_iff.mp H; obtain ⟨aK, aM, H⟩ := H; replace H : (if aK = true then ((hash_Row.f a0_0 1).bind fun aC => (if a0_4 = aC then (if a0_5 = 255 then ((elastic_Bucket_44.f k l0_3 a0_1).bind fun aD => (some (!aD))) else (some false)) else (some false))) else (some false)) = some r := H; have A8 := mk_ aM; clear aM
       by_cases c9 : aK = true
       ·subst c9
        have H1 : ((hash_Row.f a0_0 1).bind fun aC => (if a0_4 = aC then (if a0_5 = 255 then ((elastic_Bucket_44.f k l0_3 a0_1).bind fun aD => (some (!aD))) else (some false)) else (some false))) = some r := by rw [if_pos rfl] at H; exact H
        clear H; have H := H1; clear H1; replace H := Option.bind_eq_some_iff.mp H; obtain ⟨aC, aN, H⟩ := H; replace H : (if a0_4 = aC then (if a0_5 = 255 then ((elastic_Bucket_44.f k l0_3 a0_1).bind fun aD => (some (!aD))) else (some false)) else (some false)) = some r := H; have aL := mk_ aN; clear aN
        by_cases aG : a0_4 = aC
        ·rw [if_pos aG] at H; have aZ : (a0_4 == aC) = true := beq_iff_eq.mpr aG; have bA : (a0_4 != aC) = false := bne_eq_false_iff_eq.mpr aG; clear aG
         by_cases aH : a0_5 = 255
         ·rw [if_pos aH] at H; have bB : (a0_5 == 255) = true := beq_iff_eq.mpr aH; have bC : (a0_5 != 255) = false := bne_eq_false_iff_eq.mpr aH; clear aH; replace H := Option.bind_eq_some_iff.mp H; obtain ⟨aD, aO, H⟩ := H; replace H : (some (!aD)) = some r := H; have bD := mk_ aO; clear aO; obtain rfl := Option.some.inj H
          go_enter Try.func15, Try.ntmps15
          try go_wp2_with (first | ((with_reducible refine gate_dst (N := 1) rfl ?_); (try (refine gate_guard (by rfl) ?_; dsimp only)); refine box_event ?hg (N := 1) ?hd (cs := #[.int .u64 a0_0, .int .i64 a0_1, .int .i64 a0_2, .slice A0_3 l0_3.length c0_3, .int .u64 a0_4, .int .i64 a0_5, .slice A0_6 l0_6.length c0_6]) (t := 28) ?hr ?_; (case hd => rfl); (case hg => rfl); (case hr => first | (go_simp; done) | (go_simp; rfl)); intro aB hg bE hbox hb; have aA := mk_ (hbox); have aE := gx_ hg HB; have aF := gx_ hg HB; replace HB := bs_ HB hb; clear hb hbox hg))
          replace aA := bd_ aA; replace HB := mk_ (below_drew1 HB.out); refine start_ (n := 58) (S := fun w' => w'.cell? ⟨aB, 0, none⟩ = some (.int .u64 a0_0) ∧ w'.cell? ⟨aB, 1, none⟩ = some (.int .i64 a0_1) ∧ w'.cell? ⟨aB, 2, none⟩ = some (.int .i64 a0_2) ∧ w'.cell? ⟨aB, 3, none⟩ = some (.slice A0_3 l0_3.length c0_3) ∧ w'.cell? ⟨aB, 4, none⟩ = some (.int .u64 a0_4) ∧ w'.cell? ⟨aB, 5, none⟩ = some (.int .i64 a0_5) ∧ w'.cell? ⟨aB, 6, none⟩ = some (.slice A0_6 l0_6.length c0_6)) (ds := []) (mB 58 0) (by kernel_rfl) rfl rfl ⟨bc_ aA 0, bc_ aA 1, bc_ aA 2, bc_ aA 3, bc_ aA 4, bc_ aA 5, bc_ aA 6⟩ (fun hHeld => ?_); refine with_tabW elastic_Right.tab1 elastic_Right.bits1 (fun HT_ HW_ => ?_); generalize bE.drew = bO at aA HB hHeld ⊢; refine pq_ 0 3 58 1 HT_ ?_
          refine tq_ 1 4 58 3 HT_ HW_ hHeld ?_
          refine pq_ 2 5 58 7 HT_ ?_
          refine pq_ 3 6 58 15 HT_ ?_
          refine pq_ 4 7 58 31 HT_ ?_
          refine tq_ 5 8 58 63 HT_ HW_ hHeld ?_
          refine pq_ 6 9 58 127 HT_ ?_
          refine pq_ 7 10 58 255 HT_ ?_
          refine pq_ 8 11 58 511 HT_ ?_
          refine pq_ 9 12 58 1023 HT_ ?_
          refine tq_ 10 13 58 2047 HT_ HW_ hHeld ?_
          refine pq_ 11 14 58 4095 HT_ ?_
          refine pq_ 12 15 58 8191 HT_ ?_
          refine pq_ 13 16 58 16383 HT_ ?_
          refine pq_ 14 17 58 32767 HT_ ?_
          refine tq_ 15 18 58 65535 HT_ HW_ hHeld ?_
          refine pq_ 16 19 58 131071 HT_ ?_
          refine pq_ 17 20 58 262143 HT_ ?_
          refine pq_ 18 21 58 524287 HT_ ?_
          refine pq_ 19 22 58 1048575 HT_ ?_
          refine tq_ 20 23 58 2097151 HT_ HW_ hHeld ?_
          refine pq_ 21 24 58 4194303 HT_ ?_
          refine pq_ 22 25 58 8388607 HT_ ?_
          refine pq_ 23 26 58 16777215 HT_ ?_
          refine pq_ 24 27 58 33554431 HT_ ?_
          refine pq_ 25 28 58 67108863 HT_ ?_
          refine tq_ 26 29 58 134217727 HT_ HW_ hHeld ?_
          refine pq_ 27 30 58 268435455 HT_ ?_
          refine pq_ 28 31 58 536870911 HT_ ?_
          refine pq_ 29 32 58 1073741823 HT_ ?_
          refine pq_ 30 33 58 2147483647 HT_ ?_
          refine pq_ 31 34 58 4294967295 HT_ ?_
          refine tq_ 32 35 58 8589934591 HT_ HW_ hHeld ?_
          refine one_ (i := 33) (N := some 36) (mB 58 17179869183) rfl rfl (one_of HT_.out (by kernel_rfl)) (by decide) (fun K hK => ?_); refine goes_ Try.func42 (by kernel_rfl) rfl #[.agg #[.int .u64 a0_4, .int .i64 a0_5, .slice A0_6 l0_6.length c0_6]] (by rfl) rfl rfl (by (try simp only [List.map_toArray, List.map_cons, List.map_nil]); first | done | rfl | (simp only [List.length_drop, List.length_take]; rfl)) ?_; with_reducible refine (least_Right.calls k a0_4 a0_5 _ _ l0_6 true _ ?side1 ?side2 A8.out).mono ?_
          (case side1 => exact ck_ (Kd.C_below aI.out HB.out)); (case side2 => exact aJ.out); rintro e bP ⟨rfl, hb⟩; refine ⟨_, rfl, ?_⟩; replace aA := bb_ aA hb; replace HB := bs_ HB hb; (try clear hb); refine hK.out _ _ ⟨bc_ aA 0, bc_ aA 1, bc_ aA 2, bc_ aA 3, bc_ aA 4, bc_ aA 5, bc_ aA 6⟩ (fun hHeld => ?_); clear hK K; refine norm_ (a' := ?_) ?_ ?_; rotate_left
          ·show Act.put _ (some 36) _ = _
           simp only [Act.put, sa_, sb_, sc_, i64_w, i32_w]; rfl
          refine pq_ 34 37 58 34359738367 HT_ ?_
          refine pq_ 35 38 58 68719476735 HT_ ?_
          refine pq_ 36 39 58 137438953471 HT_ ?_
          refine pq_ 37 40 58 274877906943 HT_ ?_
          refine pq_ 39 42 58 824633720831 HT_ ?_
          refine tq_ 38 41 58 1099511627775 HT_ HW_ hHeld ?_
          refine tq_ 40 43 58 2199023255551 HT_ HW_ hHeld ?_
          refine one_ (i := 41) (N := some 44) (mB 58 4398046511103) rfl rfl (one_of HT_.out (by kernel_rfl)) (by decide) (fun K hK => ?_); refine goes_ Try.func43 (by kernel_rfl) rfl #[.int .u64 a0_0, .int .i64 1] (by rfl) rfl rfl (by (try simp only [List.map_toArray, List.map_cons, List.map_nil]); first | done | rfl | (simp only [List.length_drop, List.length_take]; rfl)) ?_; with_reducible refine (hash_Row.calls a0_0 1 aC _ aL.out).mono ?_
          rintro e bQ ⟨rfl, hb⟩; refine ⟨_, rfl, ?_⟩; replace aA := bb_ aA hb; replace HB := bs_ HB hb; (try clear hb); refine hK.out _ _ ⟨bc_ aA 0, bc_ aA 1, bc_ aA 2, bc_ aA 3, bc_ aA 4, bc_ aA 5, bc_ aA 6⟩ (fun hHeld => ?_); clear hK K; refine norm_ (a' := ?_) ?_ ?_; rotate_left
          ·show Act.put _ (some 44) _ = _
           simp only [Act.put, sa_, sb_, sc_, i64_w, i32_w]; rfl
          refine pq_ 42 45 58 8796093022207 HT_ ?_
          refine pq_ 43 46 58 17592186044415 HT_ ?_
          refine pq_ 44 47 58 35184372088831 HT_ ?_
          refine pq_ 45 48 58 70368744177663 HT_ ?_
          refine pq_ 46 49 58 140737488355327 HT_ ?_
          refine tq_ 47 50 58 281474976710655 HT_ HW_ hHeld ?_
          refine pq_ 48 51 58 562949953421311 HT_ ?_
          refine pq_ 49 52 58 1125899906842623 HT_ ?_
          refine pq_ 50 53 58 2251799813685247 HT_ ?_
          refine pq_ 51 54 58 4503599627370495 HT_ ?_
          refine pq_ 53 56 58 13510798882111487 HT_ ?_
          refine tq_ 52 55 58 18014398509481983 HT_ HW_ hHeld ?_
          refine one_ (i := 54) (N := some 57) (mB 58 36028797018963967) rfl rfl (one_of HT_.out (by kernel_rfl)) (by decide) (fun K hK => ?_); refine goes_ Try.func44 (by kernel_rfl) rfl #[.slice A0_3 l0_3.length c0_3, .func (.func 45) #[] #[.pointer (some ⟨aB, 0, none⟩)]] (by rfl) rfl rfl (by (try simp only [List.map_toArray, List.map_cons, List.map_nil]); first | done | rfl | (simp only [List.length_drop, List.length_take]; rfl)) ?_; with_reducible refine (elastic_Bucket_44.calls k aB _ _ l0_3 a0_1 aD _ hHeld.2.1  ?side1 ?side2 bD.out).mono ?_
          (case side1 => exact ck_ (Kd.C_below aP.out HB.out)); (case side2 => exact aQ.out); rintro e bR ⟨rfl, hb⟩; refine ⟨_, rfl, ?_⟩; replace aA := bb_ aA hb; replace HB := bs_ HB hb; (try clear hb); refine hK.out _ _ ⟨bc_ aA 0, bc_ aA 1, bc_ aA 2, bc_ aA 3, bc_ aA 4, bc_ aA 5, bc_ aA 6⟩ (fun hHeld => ?_); clear hK K; refine norm_ (a' := ?_) ?_ ?_; rotate_left
          ·show Act.put _ (some 57) _ = _
           simp only [Act.put, sa_, sb_, sc_, i64_w, i32_w]; rfl
          refine pq_ 55 58 58 72057594037927935 HT_ ?_
          refine pq_ 56 59 58 144115188075855871 HT_ ?_
          refine pq_ 57 2 58 288230376151711743 HT_ ?_
          refine done_ (done_of HT_.out (by kernel_rfl)) ?_
          try go_wp2
          go_ret; exact ⟨by first | rfl | (simp [*] <;> rfl), bl_ HB⟩
         ·rw [if_neg aH] at H; have bB : (a0_5 == 255) = false := beq_eq_false_iff_ne.mpr aH; have bC : (a0_5 != 255) = true := bne_iff_ne.mpr aH; obtain rfl := Option.some.inj H
          go_enter Try.func15, Try.ntmps15
          try go_wp2_with (first | ((with_reducible refine gate_dst (N := 1) rfl ?_); (try (refine gate_guard (by rfl) ?_; dsimp only)); refine box_event ?hg (N := 1) ?hd (cs := #[.int .u64 a0_0, .int .i64 a0_1, .int .i64 a0_2, .slice A0_3 l0_3.length c0_3, .int .u64 a0_4, .int .i64 a0_5, .slice A0_6 l0_6.length c0_6]) (t := 28) ?hr ?_; (case hd => rfl); (case hg => rfl); (case hr => first | (go_simp; done) | (go_simp; rfl)); intro aB hg bF hbox hb; have aA := mk_ (hbox); have aE := gx_ hg HB; have aF := gx_ hg HB; replace HB := bs_ HB hb; clear hb hbox hg))
          replace aA := bd_ aA; replace HB := mk_ (below_drew1 HB.out); refine start_ (n := 58) (S := fun w' => w'.cell? ⟨aB, 0, none⟩ = some (.int .u64 a0_0) ∧ w'.cell? ⟨aB, 1, none⟩ = some (.int .i64 a0_1) ∧ w'.cell? ⟨aB, 2, none⟩ = some (.int .i64 a0_2) ∧ w'.cell? ⟨aB, 3, none⟩ = some (.slice A0_3 l0_3.length c0_3) ∧ w'.cell? ⟨aB, 4, none⟩ = some (.int .u64 a0_4) ∧ w'.cell? ⟨aB, 5, none⟩ = some (.int .i64 a0_5) ∧ w'.cell? ⟨aB, 6, none⟩ = some (.slice A0_6 l0_6.length c0_6)) (ds := []) (mB 58 0) (by kernel_rfl) rfl rfl ⟨bc_ aA 0, bc_ aA 1, bc_ aA 2, bc_ aA 3, bc_ aA 4, bc_ aA 5, bc_ aA 6⟩ (fun hHeld => ?_); refine with_tabW elastic_Right.tab1 elastic_Right.bits1 (fun HT_ HW_ => ?_); generalize bF.drew = bS at aA HB hHeld ⊢; refine pq_ 0 3 58 1 HT_ ?_
          refine tq_ 1 4 58 3 HT_ HW_ hHeld ?_
          refine pq_ 2 5 58 7 HT_ ?_
          refine pq_ 3 6 58 15 HT_ ?_
          refine pq_ 4 7 58 31 HT_ ?_
          refine tq_ 5 8 58 63 HT_ HW_ hHeld ?_
          refine pq_ 6 9 58 127 HT_ ?_
          refine pq_ 7 10 58 255 HT_ ?_
          refine pq_ 8 11 58 511 HT_ ?_
          refine pq_ 9 12 58 1023 HT_ ?_
          refine tq_ 10 13 58 2047 HT_ HW_ hHeld ?_
          refine pq_ 11 14 58 4095 HT_ ?_
          refine pq_ 12 15 58 8191 HT_ ?_
          refine pq_ 13 16 58 16383 HT_ ?_
          refine pq_ 14 17 58 32767 HT_ ?_
          refine tq_ 15 18 58 65535 HT_ HW_ hHeld ?_
          refine pq_ 16 19 58 131071 HT_ ?_
          refine pq_ 17 20 58 262143 HT_ ?_
          refine pq_ 18 21 58 524287 HT_ ?_
          refine pq_ 19 22 58 1048575 HT_ ?_
          refine tq_ 20 23 58 2097151 HT_ HW_ hHeld ?_
          refine pq_ 21 24 58 4194303 HT_ ?_
          refine pq_ 22 25 58 8388607 HT_ ?_
          refine pq_ 23 26 58 16777215 HT_ ?_
          refine pq_ 24 27 58 33554431 HT_ ?_
          refine pq_ 25 28 58 67108863 HT_ ?_
          refine tq_ 26 29 58 134217727 HT_ HW_ hHeld ?_
          refine pq_ 27 30 58 268435455 HT_ ?_
          refine pq_ 28 31 58 536870911 HT_ ?_
          refine pq_ 29 32 58 1073741823 HT_ ?_
          refine pq_ 30 33 58 2147483647 HT_ ?_
          refine pq_ 31 34 58 4294967295 HT_ ?_
          refine tq_ 32 35 58 8589934591 HT_ HW_ hHeld ?_
          refine one_ (i := 33) (N := some 36) (mB 58 17179869183) rfl rfl (one_of HT_.out (by kernel_rfl)) (by decide) (fun K hK => ?_); refine goes_ Try.func42 (by kernel_rfl) rfl #[.agg #[.int .u64 a0_4, .int .i64 a0_5, .slice A0_6 l0_6.length c0_6]] (by rfl) rfl rfl (by (try simp only [List.map_toArray, List.map_cons, List.map_nil]); first | done | rfl | (simp only [List.length_drop, List.length_take]; rfl)) ?_; with_reducible refine (least_Right.calls k a0_4 a0_5 _ _ l0_6 true _ ?side1 ?side2 A8.out).mono ?_
          (case side1 => exact ck_ (Kd.C_below aI.out HB.out)); (case side2 => exact aJ.out); rintro e bT ⟨rfl, hb⟩; refine ⟨_, rfl, ?_⟩; replace aA := bb_ aA hb; replace HB := bs_ HB hb; (try clear hb); refine hK.out _ _ ⟨bc_ aA 0, bc_ aA 1, bc_ aA 2, bc_ aA 3, bc_ aA 4, bc_ aA 5, bc_ aA 6⟩ (fun hHeld => ?_); clear hK K; refine norm_ (a' := ?_) ?_ ?_; rotate_left
          ·show Act.put _ (some 36) _ = _
           simp only [Act.put, sa_, sb_, sc_, i64_w, i32_w]; rfl
          refine pq_ 34 37 58 34359738367 HT_ ?_
          refine pq_ 35 38 58 68719476735 HT_ ?_
          refine pq_ 36 39 58 137438953471 HT_ ?_
          refine pq_ 37 40 58 274877906943 HT_ ?_
          refine pq_ 39 42 58 824633720831 HT_ ?_
          refine tq_ 38 41 58 1099511627775 HT_ HW_ hHeld ?_
          refine tq_ 40 43 58 2199023255551 HT_ HW_ hHeld ?_
          refine one_ (i := 41) (N := some 44) (mB 58 4398046511103) rfl rfl (one_of HT_.out (by kernel_rfl)) (by decide) (fun K hK => ?_); refine goes_ Try.func43 (by kernel_rfl) rfl #[.int .u64 a0_0, .int .i64 1] (by rfl) rfl rfl (by (try simp only [List.map_toArray, List.map_cons, List.map_nil]); first | done | rfl | (simp only [List.length_drop, List.length_take]; rfl)) ?_; with_reducible refine (hash_Row.calls a0_0 1 aC _ aL.out).mono ?_
          rintro e bU ⟨rfl, hb⟩; refine ⟨_, rfl, ?_⟩; replace aA := bb_ aA hb; replace HB := bs_ HB hb; (try clear hb); refine hK.out _ _ ⟨bc_ aA 0, bc_ aA 1, bc_ aA 2, bc_ aA 3, bc_ aA 4, bc_ aA 5, bc_ aA 6⟩ (fun hHeld => ?_); clear hK K; refine norm_ (a' := ?_) ?_ ?_; rotate_left
          ·show Act.put _ (some 44) _ = _
           simp only [Act.put, sa_, sb_, sc_, i64_w, i32_w]; rfl
          refine pq_ 42 45 58 8796093022207 HT_ ?_
          refine pq_ 43 46 58 17592186044415 HT_ ?_
          refine pq_ 44 47 58 35184372088831 HT_ ?_
          refine pq_ 45 48 58 70368744177663 HT_ ?_
          refine pq_ 46 49 58 140737488355327 HT_ ?_
          refine tq_ 47 50 58 281474976710655 HT_ HW_ hHeld ?_
          refine pq_ 48 51 58 562949953421311 HT_ ?_
          refine pq_ 49 52 58 1125899906842623 HT_ ?_
          refine pq_ 50 53 58 2251799813685247 HT_ ?_
          refine un_ [(51, 54), (52, 55), (53, 56), (54, 57), (55, 58)] (fuel := 2) (a' := ?_) (mB 58 72057594037927935) rfl HT_ (by kernel_rfl) (by kernel_rfl) (fun _ _ _ _ h => h) ?_ ?_; rotate_left
          ·simp only [unwA, Act.put, sa_, sb_, sc_, i64_w, i32_w]; rfl
          refine pq_ 56 59 58 144115188075855871 HT_ ?_
          refine pq_ 57 2 58 288230376151711743 HT_ ?_
          refine done_ (done_of HT_.out (by kernel_rfl)) ?_
          try go_wp2
          go_ret; exact ⟨by first | rfl | (simp [*] <;> rfl), bl_ HB⟩
        ·rw [if_neg aG] at H; have aZ : (a0_4 == aC) = false := beq_eq_false_iff_ne.mpr aG; have bA : (a0_4 != aC) = true := bne_iff_ne.mpr aG; obtain rfl := Option.some.inj H
         go_enter Try.func15, Try.ntmps15
         try go_wp2_with (first | ((with_reducible refine gate_dst (N := 1) rfl ?_); (try (refine gate_guard (by rfl) ?_; dsimp only)); refine box_event ?hg (N := 1) ?hd (cs := #[.int .u64 a0_0, .int .i64 a0_1, .int .i64 a0_2, .slice A0_3 l0_3.length c0_3, .int .u64 a0_4, .int .i64 a0_5, .slice A0_6 l0_6.length c0_6]) (t := 28) ?hr ?_; (case hd => rfl); (case hg => rfl); (case hr => first | (go_simp; done) | (go_simp; rfl)); intro aB hg bG hbox hb; have aA := mk_ (hbox); have aE := gx_ hg HB; have aF := gx_ hg HB; replace HB := bs_ HB hb; clear hb hbox hg))
         replace aA := bd_ aA; replace HB := mk_ (below_drew1 HB.out); refine start_ (n := 58) (S := fun w' => w'.cell? ⟨aB, 0, none⟩ = some (.int .u64 a0_0) ∧ w'.cell? ⟨aB, 1, none⟩ = some (.int .i64 a0_1) ∧ w'.cell? ⟨aB, 2, none⟩ = some (.int .i64 a0_2) ∧ w'.cell? ⟨aB, 3, none⟩ = some (.slice A0_3 l0_3.length c0_3) ∧ w'.cell? ⟨aB, 4, none⟩ = some (.int .u64 a0_4) ∧ w'.cell? ⟨aB, 5, none⟩ = some (.int .i64 a0_5) ∧ w'.cell? ⟨aB, 6, none⟩ = some (.slice A0_6 l0_6.length c0_6)) (ds := []) (mB 58 0) (by kernel_rfl) rfl rfl ⟨bc_ aA 0, bc_ aA 1, bc_ aA 2, bc_ aA 3, bc_ aA 4, bc_ aA 5, bc_ aA 6⟩ (fun hHeld => ?_); refine with_tabW elastic_Right.tab1 elastic_Right.bits1 (fun HT_ HW_ => ?_); generalize bG.drew = bV at aA HB hHeld ⊢; refine pq_ 0 3 58 1 HT_ ?_
         refine tq_ 1 4 58 3 HT_ HW_ hHeld ?_
         refine pq_ 2 5 58 7 HT_ ?_
         refine pq_ 3 6 58 15 HT_ ?_
         refine pq_ 4 7 58 31 HT_ ?_
         refine tq_ 5 8 58 63 HT_ HW_ hHeld ?_
         refine pq_ 6 9 58 127 HT_ ?_
         refine pq_ 7 10 58 255 HT_ ?_
         refine pq_ 8 11 58 511 HT_ ?_
         refine pq_ 9 12 58 1023 HT_ ?_
         refine tq_ 10 13 58 2047 HT_ HW_ hHeld ?_
         refine pq_ 11 14 58 4095 HT_ ?_
         refine pq_ 12 15 58 8191 HT_ ?_
         refine pq_ 13 16 58 16383 HT_ ?_
         refine pq_ 14 17 58 32767 HT_ ?_
         refine tq_ 15 18 58 65535 HT_ HW_ hHeld ?_
         refine pq_ 16 19 58 131071 HT_ ?_
         refine pq_ 17 20 58 262143 HT_ ?_
         refine pq_ 18 21 58 524287 HT_ ?_
         refine pq_ 19 22 58 1048575 HT_ ?_
         refine tq_ 20 23 58 2097151 HT_ HW_ hHeld ?_
         refine pq_ 21 24 58 4194303 HT_ ?_
         refine pq_ 22 25 58 8388607 HT_ ?_
         refine pq_ 23 26 58 16777215 HT_ ?_
         refine pq_ 24 27 58 33554431 HT_ ?_
         refine pq_ 25 28 58 67108863 HT_ ?_
         refine tq_ 26 29 58 134217727 HT_ HW_ hHeld ?_
         refine pq_ 27 30 58 268435455 HT_ ?_
         refine pq_ 28 31 58 536870911 HT_ ?_
         refine pq_ 29 32 58 1073741823 HT_ ?_
         refine pq_ 30 33 58 2147483647 HT_ ?_
         refine pq_ 31 34 58 4294967295 HT_ ?_
         refine tq_ 32 35 58 8589934591 HT_ HW_ hHeld ?_
         refine one_ (i := 33) (N := some 36) (mB 58 17179869183) rfl rfl (one_of HT_.out (by kernel_rfl)) (by decide) (fun K hK => ?_); refine goes_ Try.func42 (by kernel_rfl) rfl #[.agg #[.int .u64 a0_4, .int .i64 a0_5, .slice A0_6 l0_6.length c0_6]] (by rfl) rfl rfl (by (try simp only [List.map_toArray, List.map_cons, List.map_nil]); first | done | rfl | (simp only [List.length_drop, List.length_take]; rfl)) ?_; with_reducible refine (least_Right.calls k a0_4 a0_5 _ _ l0_6 true _ ?side1 ?side2 A8.out).mono ?_
         (case side1 => exact ck_ (Kd.C_below aI.out HB.out)); (case side2 => exact aJ.out); rintro e bW ⟨rfl, hb⟩; refine ⟨_, rfl, ?_⟩; replace aA := bb_ aA hb; replace HB := bs_ HB hb; (try clear hb); refine hK.out _ _ ⟨bc_ aA 0, bc_ aA 1, bc_ aA 2, bc_ aA 3, bc_ aA 4, bc_ aA 5, bc_ aA 6⟩ (fun hHeld => ?_); clear hK K; refine norm_ (a' := ?_) ?_ ?_; rotate_left
         ·show Act.put _ (some 36) _ = _
          simp only [Act.put, sa_, sb_, sc_, i64_w, i32_w]; rfl
         refine pq_ 34 37 58 34359738367 HT_ ?_
         refine pq_ 35 38 58 68719476735 HT_ ?_
         refine pq_ 36 39 58 137438953471 HT_ ?_
         refine pq_ 37 40 58 274877906943 HT_ ?_
         refine pq_ 39 42 58 824633720831 HT_ ?_
         refine tq_ 38 41 58 1099511627775 HT_ HW_ hHeld ?_
         refine tq_ 40 43 58 2199023255551 HT_ HW_ hHeld ?_
         refine one_ (i := 41) (N := some 44) (mB 58 4398046511103) rfl rfl (one_of HT_.out (by kernel_rfl)) (by decide) (fun K hK => ?_); refine goes_ Try.func43 (by kernel_rfl) rfl #[.int .u64 a0_0, .int .i64 1] (by rfl) rfl rfl (by (try simp only [List.map_toArray, List.map_cons, List.map_nil]); first | done | rfl | (simp only [List.length_drop, List.length_take]; rfl)) ?_; with_reducible refine (hash_Row.calls a0_0 1 aC _ aL.out).mono ?_
         rintro e bX ⟨rfl, hb⟩; refine ⟨_, rfl, ?_⟩; replace aA := bb_ aA hb; replace HB := bs_ HB hb; (try clear hb); refine hK.out _ _ ⟨bc_ aA 0, bc_ aA 1, bc_ aA 2, bc_ aA 3, bc_ aA 4, bc_ aA 5, bc_ aA 6⟩ (fun hHeld => ?_); clear hK K; refine norm_ (a' := ?_) ?_ ?_; rotate_left
         ·show Act.put _ (some 44) _ = _
          simp only [Act.put, sa_, sb_, sc_, i64_w, i32_w]; rfl
         refine pq_ 42 45 58 8796093022207 HT_ ?_
         refine pq_ 43 46 58 17592186044415 HT_ ?_
         refine pq_ 44 47 58 35184372088831 HT_ ?_
         refine un_ [(45, 48), (46, 49), (47, 50), (48, 51)] (fuel := 9) (a' := ?_) (mB 58 562949953421311) rfl HT_ (by kernel_rfl) (by kernel_rfl) (fun _ _ _ _ h => h) ?_ ?_; rotate_left
         ·simp only [unwA, Act.put, sa_, sb_, sc_, i64_w, i32_w]; rfl
         refine pq_ 49 52 58 1125899906842623 HT_ ?_
         refine pq_ 50 53 58 2251799813685247 HT_ ?_
         refine un_ [(51, 54), (52, 55), (53, 56), (54, 57), (55, 58)] (fuel := 2) (a' := ?_) (mB 58 72057594037927935) rfl HT_ (by kernel_rfl) (by kernel_rfl) (fun _ _ _ _ h => h) ?_ ?_; rotate_left
         ·simp only [unwA, Act.put, sa_, sb_, sc_, i64_w, i32_w]; rfl
         refine pq_ 56 59 58 144115188075855871 HT_ ?_
         refine pq_ 57 2 58 288230376151711743 HT_ ?_
         refine done_ (done_of HT_.out (by kernel_rfl)) ?_
         try go_wp2
         go_ret; exact ⟨by first | rfl | (simp [*] <;> rfl), bl_ HB⟩
       ·replace c9 := Bool.eq_false_iff.mpr c9; subst c9
        have H1 : (some false) = some r := by rw [if_neg (show ¬ (false = true) by decide)] at H; exact H
        clear H; have H := H1; clear H1; obtain rfl := Option.some.inj H
        go_enter Try.func15, Try.ntmps15
        try go_wp2_with (first | ((with_reducible refine gate_dst (N := 1) rfl ?_); (try (refine gate_guard (by rfl) ?_; dsimp only)); refine box_event ?hg (N := 1) ?hd (cs := #[.int .u64 a0_0, .int .i64 a0_1, .int .i64 a0_2, .slice A0_3 l0_3.length c0_3, .int .u64 a0_4, .int .i64 a0_5, .slice A0_6 l0_6.length c0_6]) (t := 28) ?hr ?_; (case hd => rfl); (case hg => rfl); (case hr => first | (go_simp; done) | (go_simp; rfl)); intro aB hg bH hbox hb; have aA := mk_ (hbox); have aE := gx_ hg HB; have aF := gx_ hg HB; replace HB := bs_ HB hb; clear hb hbox hg))
        replace aA := bd_ aA; replace HB := mk_ (below_drew1 HB.out); refine start_ (n := 58) (S := fun w' => w'.cell? ⟨aB, 0, none⟩ = some (.int .u64 a0_0) ∧ w'.cell? ⟨aB, 1, none⟩ = some (.int .i64 a0_1) ∧ w'.cell? ⟨aB, 2, none⟩ = some (.int .i64 a0_2) ∧ w'.cell? ⟨aB, 3, none⟩ = some (.slice A0_3 l0_3.length c0_3) ∧ w'.cell? ⟨aB, 4, none⟩ = some (.int .u64 a0_4) ∧ w'.cell? ⟨aB, 5, none⟩ = some (.int .i64 a0_5) ∧ w'.cell? ⟨aB, 6, none⟩ = some (.slice A0_6 l0_6.length c0_6)) (ds := []) (mB 58 0) (by kernel_rfl) rfl rfl ⟨bc_ aA 0, bc_ aA 1, bc_ aA 2, bc_ aA 3, bc_ aA 4, bc_ aA 5, bc_ aA 6⟩ (fun hHeld => ?_); refine with_tabW elastic_Right.tab1 elastic_Right.bits1 (fun HT_ HW_ => ?_); generalize bH.drew = bY at aA HB hHeld ⊢; refine pq_ 0 3 58 1 HT_ ?_
        refine tq_ 1 4 58 3 HT_ HW_ hHeld ?_
        refine pq_ 2 5 58 7 HT_ ?_
        refine pq_ 3 6 58 15 HT_ ?_
        refine pq_ 4 7 58 31 HT_ ?_
        refine tq_ 5 8 58 63 HT_ HW_ hHeld ?_
        refine pq_ 6 9 58 127 HT_ ?_
        refine pq_ 7 10 58 255 HT_ ?_
        refine pq_ 8 11 58 511 HT_ ?_
        refine pq_ 9 12 58 1023 HT_ ?_
        refine tq_ 10 13 58 2047 HT_ HW_ hHeld ?_
        refine pq_ 11 14 58 4095 HT_ ?_
        refine pq_ 12 15 58 8191 HT_ ?_
        refine pq_ 13 16 58 16383 HT_ ?_
        refine pq_ 14 17 58 32767 HT_ ?_
        refine tq_ 15 18 58 65535 HT_ HW_ hHeld ?_
        refine pq_ 16 19 58 131071 HT_ ?_
        refine pq_ 17 20 58 262143 HT_ ?_
        refine pq_ 18 21 58 524287 HT_ ?_
        refine pq_ 19 22 58 1048575 HT_ ?_
        refine tq_ 20 23 58 2097151 HT_ HW_ hHeld ?_
        refine pq_ 21 24 58 4194303 HT_ ?_
        refine pq_ 22 25 58 8388607 HT_ ?_
        refine pq_ 23 26 58 16777215 HT_ ?_
        refine pq_ 24 27 58 33554431 HT_ ?_
        refine pq_ 25 28 58 67108863 HT_ ?_
        refine tq_ 26 29 58 134217727 HT_ HW_ hHeld ?_
        refine pq_ 27 30 58 268435455 HT_ ?_
        refine pq_ 28 31 58 536870911 HT_ ?_
        refine pq_ 29 32 58 1073741823 HT_ ?_
        refine pq_ 30 33 58 2147483647 HT_ ?_
        refine pq_ 31 34 58 4294967295 HT_ ?_
        refine tq_ 32 35 58 8589934591 HT_ HW_ hHeld ?_
        refine one_ (i := 33) (N := some 36) (mB 58 17179869183) rfl rfl (one_of HT_.out (by kernel_rfl)) (by decide) (fun K hK => ?_); refine goes_ Try.func42 (by kernel_rfl) rfl #[.agg #[.int .u64 a0_4, .int .i64 a0_5, .slice A0_6 l0_6.length c0_6]] (by rfl) rfl rfl (by (try simp only [List.map_toArray, List.map_cons, List.map_nil]); first | done | rfl | (simp only [List.length_drop, List.length_take]; rfl)) ?_; with_reducible refine (least_Right.calls k a0_4 a0_5 _ _ l0_6 false _ ?side1 ?side2 A8.out).mono ?_
        (case side1 => exact ck_ (Kd.C_below aI.out HB.out)); (case side2 => exact aJ.out); rintro e bZ ⟨rfl, hb⟩; refine ⟨_, rfl, ?_⟩; replace aA := bb_ aA hb; replace HB := bs_ HB hb; (try clear hb); refine hK.out _ _ ⟨bc_ aA 0, bc_ aA 1, bc_ aA 2, bc_ aA 3, bc_ aA 4, bc_ aA 5, bc_ aA 6⟩ (fun hHeld => ?_); clear hK K; refine norm_ (a' := ?_) ?_ ?_; rotate_left
        ·show Act.put _ (some 36) _ = _
         simp only [Act.put, sa_, sb_, sc_, i64_w, i32_w]; rfl
        refine pq_ 34 37 58 34359738367 HT_ ?_
        refine pq_ 35 38 58 68719476735 HT_ ?_
        refine un_ [(36, 39), (37, 40), (38, 41), (39, 42), (40, 43), (41, 44), (42, 45)] (fuel := 15) (a' := ?_) (mB 58 8796093022207) rfl HT_ (by kernel_rfl) (by kernel_rfl) (fun _ _ _ _ h => h) ?_ ?_; rotate_left
        ·simp only [unwA, Act.put, sa_, sb_, sc_, i64_w, i32_w]; rfl
        refine pq_ 43 46 58 17592186044415 HT_ ?_
        refine pq_ 44 47 58 35184372088831 HT_ ?_
        refine un_ [(45, 48), (46, 49), (47, 50), (48, 51)] (fuel := 9) (a' := ?_) (mB 58 562949953421311) rfl HT_ (by kernel_rfl) (by kernel_rfl) (fun _ _ _ _ h => h) ?_ ?_; rotate_left
        ·simp only [unwA, Act.put, sa_, sb_, sc_, i64_w, i32_w]; rfl
        refine pq_ 49 52 58 1125899906842623 HT_ ?_
        refine pq_ 50 53 58 2251799813685247 HT_ ?_
        refine un_ [(51, 54), (52, 55), (53, 56), (54, 57), (55, 58)] (fuel := 2) (a' := ?_) (mB 58 72057594037927935) rfl HT_ (by kernel_rfl) (by kernel_rfl) (fun _ _ _ _ h => h) ?_ ?_; rotate_left
        ·simp only [unwA, Act.put, sa_, sb_, sc_, i64_w, i32_w]; rfl
        refine pq_ 56 59 58 144115188075855871 HT_ ?_
        refine pq_ 57 2 58 288230376151711743 HT_ ?_
        refine done_ (done_of HT_.out (by kernel_rfl)) ?_
        try go_wp2
        go_ret; exact ⟨by first | rfl | (simp [*] <;> rfl), bl_ HB⟩
      ·rw [if_neg c7] at H; have aX : decide ((l0_3.length : Int) ≤ 256) = false := decide_eq_false c7; have aY : decide (l0_3.length ≤ 256) = false := decide_eq_false (by omega); clear c7; obtain rfl := Option.some.inj H
       go_enter Try.func15, Try.ntmps15
       try go_wp2_with (first | ((with_reducible refine gate_dst (N := 1) rfl ?_); (try (refine gate_guard (by rfl) ?_; dsimp only)); refine box_event ?hg (N := 1) ?hd (cs := #[.int .u64 a0_0, .int .i64 a0_1, .int .i64 a0_2, .slice A0_3 l0_3.length c0_3, .int .u64 a0_4, .int .i64 a0_5, .slice A0_6 l0_6.length c0_6]) (t := 28) ?hr ?_; (case hd => rfl); (case hg => rfl); (case hr => first | (go_simp; done) | (go_simp; rfl)); intro aB hg bI hbox hb; have aA := mk_ (hbox); have aE := gx_ hg HB; have aF := gx_ hg HB; replace HB := bs_ HB hb; clear hb hbox hg))
       replace aA := bd_ aA; replace HB := mk_ (below_drew1 HB.out); refine start_ (n := 58) (S := fun w' => w'.cell? ⟨aB, 0, none⟩ = some (.int .u64 a0_0) ∧ w'.cell? ⟨aB, 1, none⟩ = some (.int .i64 a0_1) ∧ w'.cell? ⟨aB, 2, none⟩ = some (.int .i64 a0_2) ∧ w'.cell? ⟨aB, 3, none⟩ = some (.slice A0_3 l0_3.length c0_3) ∧ w'.cell? ⟨aB, 4, none⟩ = some (.int .u64 a0_4) ∧ w'.cell? ⟨aB, 5, none⟩ = some (.int .i64 a0_5) ∧ w'.cell? ⟨aB, 6, none⟩ = some (.slice A0_6 l0_6.length c0_6)) (ds := []) (mB 58 0) (by kernel_rfl) rfl rfl ⟨bc_ aA 0, bc_ aA 1, bc_ aA 2, bc_ aA 3, bc_ aA 4, bc_ aA 5, bc_ aA 6⟩ (fun hHeld => ?_); refine with_tabW elastic_Right.tab1 elastic_Right.bits1 (fun HT_ HW_ => ?_); generalize bI.drew = cA at aA HB hHeld ⊢; refine pq_ 0 3 58 1 HT_ ?_
       refine tq_ 1 4 58 3 HT_ HW_ hHeld ?_
       refine pq_ 2 5 58 7 HT_ ?_
       refine pq_ 3 6 58 15 HT_ ?_
       refine pq_ 4 7 58 31 HT_ ?_
       refine tq_ 5 8 58 63 HT_ HW_ hHeld ?_
       refine pq_ 6 9 58 127 HT_ ?_
       refine pq_ 7 10 58 255 HT_ ?_
       refine pq_ 8 11 58 511 HT_ ?_
       refine pq_ 9 12 58 1023 HT_ ?_
       refine tq_ 10 13 58 2047 HT_ HW_ hHeld ?_
       refine pq_ 11 14 58 4095 HT_ ?_
       refine pq_ 12 15 58 8191 HT_ ?_
       refine pq_ 13 16 58 16383 HT_ ?_
       refine pq_ 14 17 58 32767 HT_ ?_
       refine tq_ 15 18 58 65535 HT_ HW_ hHeld ?_
       refine pq_ 16 19 58 131071 HT_ ?_
       refine pq_ 17 20 58 262143 HT_ ?_
       refine pq_ 18 21 58 524287 HT_ ?_
       refine pq_ 19 22 58 1048575 HT_ ?_
       refine tq_ 20 23 58 2097151 HT_ HW_ hHeld ?_
       refine pq_ 21 24 58 4194303 HT_ ?_
       refine pq_ 22 25 58 8388607 HT_ ?_
       refine pq_ 23 26 58 16777215 HT_ ?_
       refine pq_ 24 27 58 33554431 HT_ ?_
       refine pq_ 25 28 58 67108863 HT_ ?_
       refine tq_ 26 29 58 134217727 HT_ HW_ hHeld ?_
       refine pq_ 27 30 58 268435455 HT_ ?_
       refine pq_ 28 31 58 536870911 HT_ ?_
       refine pq_ 29 32 58 1073741823 HT_ ?_
       refine pq_ 30 33 58 2147483647 HT_ ?_
       refine un_ [(31, 34), (32, 35), (33, 36)] (fuel := 24) (a' := ?_) (mB 58 17179869183) rfl HT_ (by kernel_rfl) (by kernel_rfl) (fun _ _ _ _ h => h) ?_ ?_; rotate_left
       ·simp only [unwA, Act.put, sa_, sb_, sc_, i64_w, i32_w]; rfl
       refine pq_ 34 37 58 34359738367 HT_ ?_
       refine pq_ 35 38 58 68719476735 HT_ ?_
       refine un_ [(36, 39), (37, 40), (38, 41), (39, 42), (40, 43), (41, 44), (42, 45)] (fuel := 15) (a' := ?_) (mB 58 8796093022207) rfl HT_ (by kernel_rfl) (by kernel_rfl) (fun _ _ _ _ h => h) ?_ ?_; rotate_left
       ·simp only [unwA, Act.put, sa_, sb_, sc_, i64_w, i32_w]; rfl
       refine pq_ 43 46 58 17592186044415 HT_ ?_
       refine pq_ 44 47 58 35184372088831 HT_ ?_
       refine un_ [(45, 48), (46, 49), (47, 50), (48, 51)] (fuel := 9) (a' := ?_) (mB 58 562949953421311) rfl HT_ (by kernel_rfl) (by kernel_rfl) (fun _ _ _ _ h => h) ?_ ?_; rotate_left
       ·simp only [unwA, Act.put, sa_, sb_, sc_, i64_w, i32_w]; rfl
       refine pq_ 49 52 58 1125899906842623 HT_ ?_
       refine pq_ 50 53 58 2251799813685247 HT_ ?_
       refine un_ [(51, 54), (52, 55), (53, 56), (54, 57), (55, 58)] (fuel := 2) (a' := ?_) (mB 58 72057594037927935) rfl HT_ (by kernel_rfl) (by kernel_rfl) (fun _ _ _ _ h => h) ?_ ?_; rotate_left
       ·simp only [unwA, Act.put, sa_, sb_, sc_, i64_w, i32_w]; rfl
       refine pq_ 56 59 58 144115188075855871 HT_ ?_
       refine pq_ 57 2 58 288230376151711743 HT_ ?_
       refine done_ (done_of HT_.out (by kernel_rfl)) ?_
       try go_wp2
       go_ret; exact ⟨by first | rfl | (simp [*] <;> rfl), bl_ HB⟩
     ·rw [if_neg c6] at H; have aV : decide (1 ≤ (l0_3.length : Int)) = false := decide_eq_false c6; have aW : decide (1 ≤ l0_3.length) = false := decide_eq_false (by omega); clear c6; obtain rfl := Option.some.inj H
      go_enter Try.func15, Try.ntmps15
      try go_wp2_with (first | ((with_reducible refine gate_dst (N := 1) rfl ?_); (try (refine gate_guard (by rfl) ?_; dsimp only)); refine box_event ?hg (N := 1) ?hd (cs := #[.int .u64 a0_0, .int .i64 a0_1, .int .i64 a0_2, .slice A0_3 l0_3.length c0_3, .int .u64 a0_4, .int .i64 a0_5, .slice A0_6 l0_6.length c0_6]) (t := 28) ?hr ?_; (case hd => rfl); (case hg => rfl); (case hr => first | (go_simp; done) | (go_simp; rfl)); intro aB hg bJ hbox hb; have aA := mk_ (hbox); have aE := gx_ hg HB; have aF := gx_ hg HB; replace HB := bs_ HB hb; clear hb hbox hg))
      replace aA := bd_ aA; replace HB := mk_ (below_drew1 HB.out); refine start_ (n := 58) (S := fun w' => w'.cell? ⟨aB, 0, none⟩ = some (.int .u64 a0_0) ∧ w'.cell? ⟨aB, 1, none⟩ = some (.int .i64 a0_1) ∧ w'.cell? ⟨aB, 2, none⟩ = some (.int .i64 a0_2) ∧ w'.cell? ⟨aB, 3, none⟩ = some (.slice A0_3 l0_3.length c0_3) ∧ w'.cell? ⟨aB, 4, none⟩ = some (.int .u64 a0_4) ∧ w'.cell? ⟨aB, 5, none⟩ = some (.int .i64 a0_5) ∧ w'.cell? ⟨aB, 6, none⟩ = some (.slice A0_6 l0_6.length c0_6)) (ds := []) (mB 58 0) (by kernel_rfl) rfl rfl ⟨bc_ aA 0, bc_ aA 1, bc_ aA 2, bc_ aA 3, bc_ aA 4, bc_ aA 5, bc_ aA 6⟩ (fun hHeld => ?_); refine with_tabW elastic_Right.tab1 elastic_Right.bits1 (fun HT_ HW_ => ?_); generalize bJ.drew = cB at aA HB hHeld ⊢; refine pq_ 0 3 58 1 HT_ ?_
      refine tq_ 1 4 58 3 HT_ HW_ hHeld ?_
      refine pq_ 2 5 58 7 HT_ ?_
      refine pq_ 3 6 58 15 HT_ ?_
      refine pq_ 4 7 58 31 HT_ ?_
      refine tq_ 5 8 58 63 HT_ HW_ hHeld ?_
      refine pq_ 6 9 58 127 HT_ ?_
      refine pq_ 7 10 58 255 HT_ ?_
      refine pq_ 8 11 58 511 HT_ ?_
      refine pq_ 9 12 58 1023 HT_ ?_
      refine tq_ 10 13 58 2047 HT_ HW_ hHeld ?_
      refine pq_ 11 14 58 4095 HT_ ?_
      refine pq_ 12 15 58 8191 HT_ ?_
      refine pq_ 13 16 58 16383 HT_ ?_
      refine pq_ 14 17 58 32767 HT_ ?_
      refine tq_ 15 18 58 65535 HT_ HW_ hHeld ?_
      refine pq_ 16 19 58 131071 HT_ ?_
      refine pq_ 17 20 58 262143 HT_ ?_
      refine pq_ 18 21 58 524287 HT_ ?_
      refine pq_ 19 22 58 1048575 HT_ ?_
      refine tq_ 20 23 58 2097151 HT_ HW_ hHeld ?_
      refine pq_ 21 24 58 4194303 HT_ ?_
      refine pq_ 22 25 58 8388607 HT_ ?_
      refine pq_ 23 26 58 16777215 HT_ ?_
      refine pq_ 24 27 58 33554431 HT_ ?_
      refine un_ [(25, 28), (26, 29), (27, 30), (28, 31)] (fuel := 29) (a' := ?_) (mB 58 536870911) rfl HT_ (by kernel_rfl) (by kernel_rfl) (fun _ _ _ _ h => h) ?_ ?_; rotate_left
      ·simp only [unwA, Act.put, sa_, sb_, sc_, i64_w, i32_w]; rfl
      refine pq_ 29 32 58 1073741823 HT_ ?_
      refine pq_ 30 33 58 2147483647 HT_ ?_
      refine un_ [(31, 34), (32, 35), (33, 36)] (fuel := 24) (a' := ?_) (mB 58 17179869183) rfl HT_ (by kernel_rfl) (by kernel_rfl) (fun _ _ _ _ h => h) ?_ ?_; rotate_left
      ·simp only [unwA, Act.put, sa_, sb_, sc_, i64_w, i32_w]; rfl
      refine pq_ 34 37 58 34359738367 HT_ ?_
      refine pq_ 35 38 58 68719476735 HT_ ?_
      refine un_ [(36, 39), (37, 40), (38, 41), (39, 42), (40, 43), (41, 44), (42, 45)] (fuel := 15) (a' := ?_) (mB 58 8796093022207) rfl HT_ (by kernel_rfl) (by kernel_rfl) (fun _ _ _ _ h => h) ?_ ?_; rotate_left
      ·simp only [unwA, Act.put, sa_, sb_, sc_, i64_w, i32_w]; rfl
      refine pq_ 43 46 58 17592186044415 HT_ ?_
      refine pq_ 44 47 58 35184372088831 HT_ ?_
      refine un_ [(45, 48), (46, 49), (47, 50), (48, 51)] (fuel := 9) (a' := ?_) (mB 58 562949953421311) rfl HT_ (by kernel_rfl) (by kernel_rfl) (fun _ _ _ _ h => h) ?_ ?_; rotate_left
      ·simp only [unwA, Act.put, sa_, sb_, sc_, i64_w, i32_w]; rfl
      refine pq_ 49 52 58 1125899906842623 HT_ ?_
      refine pq_ 50 53 58 2251799813685247 HT_ ?_
      refine un_ [(51, 54), (52, 55), (53, 56), (54, 57), (55, 58)] (fuel := 2) (a' := ?_) (mB 58 72057594037927935) rfl HT_ (by kernel_rfl) (by kernel_rfl) (fun _ _ _ _ h => h) ?_ ?_; rotate_left
      ·simp only [unwA, Act.put, sa_, sb_, sc_, i64_w, i32_w]; rfl
      refine pq_ 56 59 58 144115188075855871 HT_ ?_
      refine pq_ 57 2 58 288230376151711743 HT_ ?_
      refine done_ (done_of HT_.out (by kernel_rfl)) ?_
      try go_wp2
      go_ret; exact ⟨by first | rfl | (simp [*] <;> rfl), bl_ HB⟩
    ·rw [if_neg c5] at H; have aU : decide (a0_2 ≤ 64) = false := decide_eq_false c5; clear c5; obtain rfl := Option.some.inj H
     go_enter Try.func15, Try.ntmps15
     try go_wp2_with (first | ((with_reducible refine gate_dst (N := 1) rfl ?_); (try (refine gate_guard (by rfl) ?_; dsimp only)); refine box_event ?hg (N := 1) ?hd (cs := #[.int .u64 a0_0, .int .i64 a0_1, .int .i64 a0_2, .slice A0_3 l0_3.length c0_3, .int .u64 a0_4, .int .i64 a0_5, .slice A0_6 l0_6.length c0_6]) (t := 28) ?hr ?_; (case hd => rfl); (case hg => rfl); (case hr => first | (go_simp; done) | (go_simp; rfl)); intro aB hg bK hbox hb; have aA := mk_ (hbox); have aE := gx_ hg HB; have aF := gx_ hg HB; replace HB := bs_ HB hb; clear hb hbox hg))
     replace aA := bd_ aA; replace HB := mk_ (below_drew1 HB.out); refine start_ (n := 58) (S := fun w' => w'.cell? ⟨aB, 0, none⟩ = some (.int .u64 a0_0) ∧ w'.cell? ⟨aB, 1, none⟩ = some (.int .i64 a0_1) ∧ w'.cell? ⟨aB, 2, none⟩ = some (.int .i64 a0_2) ∧ w'.cell? ⟨aB, 3, none⟩ = some (.slice A0_3 l0_3.length c0_3) ∧ w'.cell? ⟨aB, 4, none⟩ = some (.int .u64 a0_4) ∧ w'.cell? ⟨aB, 5, none⟩ = some (.int .i64 a0_5) ∧ w'.cell? ⟨aB, 6, none⟩ = some (.slice A0_6 l0_6.length c0_6)) (ds := []) (mB 58 0) (by kernel_rfl) rfl rfl ⟨bc_ aA 0, bc_ aA 1, bc_ aA 2, bc_ aA 3, bc_ aA 4, bc_ aA 5, bc_ aA 6⟩ (fun hHeld => ?_); refine with_tabW elastic_Right.tab1 elastic_Right.bits1 (fun HT_ HW_ => ?_); generalize bK.drew = cC at aA HB hHeld ⊢; refine pq_ 0 3 58 1 HT_ ?_
     refine tq_ 1 4 58 3 HT_ HW_ hHeld ?_
     refine pq_ 2 5 58 7 HT_ ?_
     refine pq_ 3 6 58 15 HT_ ?_
     refine pq_ 4 7 58 31 HT_ ?_
     refine tq_ 5 8 58 63 HT_ HW_ hHeld ?_
     refine pq_ 6 9 58 127 HT_ ?_
     refine pq_ 7 10 58 255 HT_ ?_
     refine pq_ 8 11 58 511 HT_ ?_
     refine pq_ 9 12 58 1023 HT_ ?_
     refine tq_ 10 13 58 2047 HT_ HW_ hHeld ?_
     refine pq_ 11 14 58 4095 HT_ ?_
     refine pq_ 12 15 58 8191 HT_ ?_
     refine pq_ 13 16 58 16383 HT_ ?_
     refine pq_ 14 17 58 32767 HT_ ?_
     refine tq_ 15 18 58 65535 HT_ HW_ hHeld ?_
     refine pq_ 16 19 58 131071 HT_ ?_
     refine pq_ 17 20 58 262143 HT_ ?_
     refine pq_ 18 21 58 524287 HT_ ?_
     refine un_ [(19, 22), (20, 23), (21, 24), (22, 25)] (fuel := 35) (a' := ?_) (mB 58 8388607) rfl HT_ (by kernel_rfl) (by kernel_rfl) (fun _ _ _ _ h => h) ?_ ?_; rotate_left
     ·simp only [unwA, Act.put, sa_, sb_, sc_, i64_w, i32_w]; rfl
     refine pq_ 23 26 58 16777215 HT_ ?_
     refine pq_ 24 27 58 33554431 HT_ ?_
     refine un_ [(25, 28), (26, 29), (27, 30), (28, 31)] (fuel := 29) (a' := ?_) (mB 58 536870911) rfl HT_ (by kernel_rfl) (by kernel_rfl) (fun _ _ _ _ h => h) ?_ ?_; rotate_left
     ·simp only [unwA, Act.put, sa_, sb_, sc_, i64_w, i32_w]; rfl
     refine pq_ 29 32 58 1073741823 HT_ ?_
     refine pq_ 30 33 58 2147483647 HT_ ?_
     refine un_ [(31, 34), (32, 35), (33, 36)] (fuel := 24) (a' := ?_) (mB 58 17179869183) rfl HT_ (by kernel_rfl) (by kernel_rfl) (fun _ _ _ _ h => h) ?_ ?_; rotate_left
     ·simp only [unwA, Act.put, sa_, sb_, sc_, i64_w, i32_w]; rfl
     refine pq_ 34 37 58 34359738367 HT_ ?_
     refine pq_ 35 38 58 68719476735 HT_ ?_
     refine un_ [(36, 39), (37, 40), (38, 41), (39, 42), (40, 43), (41, 44), (42, 45)] (fuel := 15) (a' := ?_) (mB 58 8796093022207) rfl HT_ (by kernel_rfl) (by kernel_rfl) (fun _ _ _ _ h => h) ?_ ?_; rotate_left
     ·simp only [unwA, Act.put, sa_, sb_, sc_, i64_w, i32_w]; rfl
     refine pq_ 43 46 58 17592186044415 HT_ ?_
     refine pq_ 44 47 58 35184372088831 HT_ ?_
     refine un_ [(45, 48), (46, 49), (47, 50), (48, 51)] (fuel := 9) (a' := ?_) (mB 58 562949953421311) rfl HT_ (by kernel_rfl) (by kernel_rfl) (fun _ _ _ _ h => h) ?_ ?_; rotate_left
     ·simp only [unwA, Act.put, sa_, sb_, sc_, i64_w, i32_w]; rfl
     refine pq_ 49 52 58 1125899906842623 HT_ ?_
     refine pq_ 50 53 58 2251799813685247 HT_ ?_
     refine un_ [(51, 54), (52, 55), (53, 56), (54, 57), (55, 58)] (fuel := 2) (a' := ?_) (mB 58 72057594037927935) rfl HT_ (by kernel_rfl) (by kernel_rfl) (fun _ _ _ _ h => h) ?_ ?_; rotate_left
     ·simp only [unwA, Act.put, sa_, sb_, sc_, i64_w, i32_w]; rfl
     refine pq_ 56 59 58 144115188075855871 HT_ ?_
     refine pq_ 57 2 58 288230376151711743 HT_ ?_
     refine done_ (done_of HT_.out (by kernel_rfl)) ?_
     try go_wp2
     go_ret; exact ⟨by first | rfl | (simp [*] <;> rfl), bl_ HB⟩
   ·rw [if_neg c4] at H; have aT : decide (1 ≤ a0_2) = false := decide_eq_false c4; clear c4; obtain rfl := Option.some.inj H
    go_enter Try.func15, Try.ntmps15
    try go_wp2_with (first | ((with_reducible refine gate_dst (N := 1) rfl ?_); (try (refine gate_guard (by rfl) ?_; dsimp only)); refine box_event ?hg (N := 1) ?hd (cs := #[.int .u64 a0_0, .int .i64 a0_1, .int .i64 a0_2, .slice A0_3 l0_3.length c0_3, .int .u64 a0_4, .int .i64 a0_5, .slice A0_6 l0_6.length c0_6]) (t := 28) ?hr ?_; (case hd => rfl); (case hg => rfl); (case hr => first | (go_simp; done) | (go_simp; rfl)); intro aB hg bL hbox hb; have aA := mk_ (hbox); have aE := gx_ hg HB; have aF := gx_ hg HB; replace HB := bs_ HB hb; clear hb hbox hg))
    replace aA := bd_ aA; replace HB := mk_ (below_drew1 HB.out); refine start_ (n := 58) (S := fun w' => w'.cell? ⟨aB, 0, none⟩ = some (.int .u64 a0_0) ∧ w'.cell? ⟨aB, 1, none⟩ = some (.int .i64 a0_1) ∧ w'.cell? ⟨aB, 2, none⟩ = some (.int .i64 a0_2) ∧ w'.cell? ⟨aB, 3, none⟩ = some (.slice A0_3 l0_3.length c0_3) ∧ w'.cell? ⟨aB, 4, none⟩ = some (.int .u64 a0_4) ∧ w'.cell? ⟨aB, 5, none⟩ = some (.int .i64 a0_5) ∧ w'.cell? ⟨aB, 6, none⟩ = some (.slice A0_6 l0_6.length c0_6)) (ds := []) (mB 58 0) (by kernel_rfl) rfl rfl ⟨bc_ aA 0, bc_ aA 1, bc_ aA 2, bc_ aA 3, bc_ aA 4, bc_ aA 5, bc_ aA 6⟩ (fun hHeld => ?_); refine with_tabW elastic_Right.tab1 elastic_Right.bits1 (fun HT_ HW_ => ?_); generalize bL.drew = cD at aA HB hHeld ⊢; refine pq_ 0 3 58 1 HT_ ?_
    refine tq_ 1 4 58 3 HT_ HW_ hHeld ?_
    refine pq_ 2 5 58 7 HT_ ?_
    refine pq_ 3 6 58 15 HT_ ?_
    refine pq_ 4 7 58 31 HT_ ?_
    refine tq_ 5 8 58 63 HT_ HW_ hHeld ?_
    refine pq_ 6 9 58 127 HT_ ?_
    refine pq_ 7 10 58 255 HT_ ?_
    refine pq_ 8 11 58 511 HT_ ?_
    refine pq_ 9 12 58 1023 HT_ ?_
    refine tq_ 10 13 58 2047 HT_ HW_ hHeld ?_
    refine pq_ 11 14 58 4095 HT_ ?_
    refine pq_ 12 15 58 8191 HT_ ?_
    refine pq_ 13 16 58 16383 HT_ ?_
    refine un_ [(14, 17), (15, 18), (16, 19)] (fuel := 41) (a' := ?_) (mB 58 131071) rfl HT_ (by kernel_rfl) (by kernel_rfl) (fun _ _ _ _ h => h) ?_ ?_; rotate_left
    ·simp only [unwA, Act.put, sa_, sb_, sc_, i64_w, i32_w]; rfl
    refine pq_ 17 20 58 262143 HT_ ?_
    refine pq_ 18 21 58 524287 HT_ ?_
    refine un_ [(19, 22), (20, 23), (21, 24), (22, 25)] (fuel := 35) (a' := ?_) (mB 58 8388607) rfl HT_ (by kernel_rfl) (by kernel_rfl) (fun _ _ _ _ h => h) ?_ ?_; rotate_left
    ·simp only [unwA, Act.put, sa_, sb_, sc_, i64_w, i32_w]; rfl
    refine pq_ 23 26 58 16777215 HT_ ?_
    refine pq_ 24 27 58 33554431 HT_ ?_
    refine un_ [(25, 28), (26, 29), (27, 30), (28, 31)] (fuel := 29) (a' := ?_) (mB 58 536870911) rfl HT_ (by kernel_rfl) (by kernel_rfl) (fun _ _ _ _ h => h) ?_ ?_; rotate_left
    ·simp only [unwA, Act.put, sa_, sb_, sc_, i64_w, i32_w]; rfl
    refine pq_ 29 32 58 1073741823 HT_ ?_
    refine pq_ 30 33 58 2147483647 HT_ ?_
    refine un_ [(31, 34), (32, 35), (33, 36)] (fuel := 24) (a' := ?_) (mB 58 17179869183) rfl HT_ (by kernel_rfl) (by kernel_rfl) (fun _ _ _ _ h => h) ?_ ?_; rotate_left
    ·simp only [unwA, Act.put, sa_, sb_, sc_, i64_w, i32_w]; rfl
    refine pq_ 34 37 58 34359738367 HT_ ?_
    refine pq_ 35 38 58 68719476735 HT_ ?_
    refine un_ [(36, 39), (37, 40), (38, 41), (39, 42), (40, 43), (41, 44), (42, 45)] (fuel := 15) (a' := ?_) (mB 58 8796093022207) rfl HT_ (by kernel_rfl) (by kernel_rfl) (fun _ _ _ _ h => h) ?_ ?_; rotate_left
    ·simp only [unwA, Act.put, sa_, sb_, sc_, i64_w, i32_w]; rfl
    refine pq_ 43 46 58 17592186044415 HT_ ?_
    refine pq_ 44 47 58 35184372088831 HT_ ?_
    refine un_ [(45, 48), (46, 49), (47, 50), (48, 51)] (fuel := 9) (a' := ?_) (mB 58 562949953421311) rfl HT_ (by kernel_rfl) (by kernel_rfl) (fun _ _ _ _ h => h) ?_ ?_; rotate_left
    ·simp only [unwA, Act.put, sa_, sb_, sc_, i64_w, i32_w]; rfl
    refine pq_ 49 52 58 1125899906842623 HT_ ?_
    refine pq_ 50 53 58 2251799813685247 HT_ ?_
    refine un_ [(51, 54), (52, 55), (53, 56), (54, 57), (55, 58)] (fuel := 2) (a' := ?_) (mB 58 72057594037927935) rfl HT_ (by kernel_rfl) (by kernel_rfl) (fun _ _ _ _ h => h) ?_ ?_; rotate_left
    ·simp only [unwA, Act.put, sa_, sb_, sc_, i64_w, i32_w]; rfl
    refine pq_ 56 59 58 144115188075855871 HT_ ?_
    refine pq_ 57 2 58 288230376151711743 HT_ ?_
    refine done_ (done_of HT_.out (by kernel_rfl)) ?_
    try go_wp2
    go_ret; exact ⟨by first | rfl | (simp [*] <;> rfl), bl_ HB⟩
  ·rw [if_neg c3] at H; have aS : decide (a0_1 ≤ 8) = false := decide_eq_false c3; clear c3; obtain rfl := Option.some.inj H
   go_enter Try.func15, Try.ntmps15
   try go_wp2_with (first | ((with_reducible refine gate_dst (N := 1) rfl ?_); (try (refine gate_guard (by rfl) ?_; dsimp only)); refine box_event ?hg (N := 1) ?hd (cs := #[.int .u64 a0_0, .int .i64 a0_1, .int .i64 a0_2, .slice A0_3 l0_3.length c0_3, .int .u64 a0_4, .int .i64 a0_5, .slice A0_6 l0_6.length c0_6]) (t := 28) ?hr ?_; (case hd => rfl); (case hg => rfl); (case hr => first | (go_simp; done) | (go_simp; rfl)); intro aB hg bM hbox hb; have aA := mk_ (hbox); have aE := gx_ hg HB; have aF := gx_ hg HB; replace HB := bs_ HB hb; clear hb hbox hg))
   replace aA := bd_ aA; replace HB := mk_ (below_drew1 HB.out); refine start_ (n := 58) (S := fun w' => w'.cell? ⟨aB, 0, none⟩ = some (.int .u64 a0_0) ∧ w'.cell? ⟨aB, 1, none⟩ = some (.int .i64 a0_1) ∧ w'.cell? ⟨aB, 2, none⟩ = some (.int .i64 a0_2) ∧ w'.cell? ⟨aB, 3, none⟩ = some (.slice A0_3 l0_3.length c0_3) ∧ w'.cell? ⟨aB, 4, none⟩ = some (.int .u64 a0_4) ∧ w'.cell? ⟨aB, 5, none⟩ = some (.int .i64 a0_5) ∧ w'.cell? ⟨aB, 6, none⟩ = some (.slice A0_6 l0_6.length c0_6)) (ds := []) (mB 58 0) (by kernel_rfl) rfl rfl ⟨bc_ aA 0, bc_ aA 1, bc_ aA 2, bc_ aA 3, bc_ aA 4, bc_ aA 5, bc_ aA 6⟩ (fun hHeld => ?_); refine with_tabW elastic_Right.tab1 elastic_Right.bits1 (fun HT_ HW_ => ?_); generalize bM.drew = cE at aA HB hHeld ⊢; refine pq_ 0 3 58 1 HT_ ?_
   refine tq_ 1 4 58 3 HT_ HW_ hHeld ?_
   refine pq_ 2 5 58 7 HT_ ?_
   refine pq_ 3 6 58 15 HT_ ?_
   refine pq_ 4 7 58 31 HT_ ?_
   refine tq_ 5 8 58 63 HT_ HW_ hHeld ?_
   refine pq_ 6 9 58 127 HT_ ?_
   refine pq_ 7 10 58 255 HT_ ?_
   refine pq_ 8 11 58 511 HT_ ?_
   refine un_ [(9, 12), (10, 13), (11, 14)] (fuel := 46) (a' := ?_) (mB 58 4095) rfl HT_ (by kernel_rfl) (by kernel_rfl) (fun _ _ _ _ h => h) ?_ ?_; rotate_left
   ·simp only [unwA, Act.put, sa_, sb_, sc_, i64_w, i32_w]; rfl
   refine pq_ 12 15 58 8191 HT_ ?_
   refine pq_ 13 16 58 16383 HT_ ?_
   refine un_ [(14, 17), (15, 18), (16, 19)] (fuel := 41) (a' := ?_) (mB 58 131071) rfl HT_ (by kernel_rfl) (by kernel_rfl) (fun _ _ _ _ h => h) ?_ ?_; rotate_left
   ·simp only [unwA, Act.put, sa_, sb_, sc_, i64_w, i32_w]; rfl
   refine pq_ 17 20 58 262143 HT_ ?_
   refine pq_ 18 21 58 524287 HT_ ?_
   refine un_ [(19, 22), (20, 23), (21, 24), (22, 25)] (fuel := 35) (a' := ?_) (mB 58 8388607) rfl HT_ (by kernel_rfl) (by kernel_rfl) (fun _ _ _ _ h => h) ?_ ?_; rotate_left
   ·simp only [unwA, Act.put, sa_, sb_, sc_, i64_w, i32_w]; rfl
   refine pq_ 23 26 58 16777215 HT_ ?_
   refine pq_ 24 27 58 33554431 HT_ ?_
   refine un_ [(25, 28), (26, 29), (27, 30), (28, 31)] (fuel := 29) (a' := ?_) (mB 58 536870911) rfl HT_ (by kernel_rfl) (by kernel_rfl) (fun _ _ _ _ h => h) ?_ ?_; rotate_left
   ·simp only [unwA, Act.put, sa_, sb_, sc_, i64_w, i32_w]; rfl
   refine pq_ 29 32 58 1073741823 HT_ ?_
   refine pq_ 30 33 58 2147483647 HT_ ?_
   refine un_ [(31, 34), (32, 35), (33, 36)] (fuel := 24) (a' := ?_) (mB 58 17179869183) rfl HT_ (by kernel_rfl) (by kernel_rfl) (fun _ _ _ _ h => h) ?_ ?_; rotate_left
   ·simp only [unwA, Act.put, sa_, sb_, sc_, i64_w, i32_w]; rfl
   refine pq_ 34 37 58 34359738367 HT_ ?_
   refine pq_ 35 38 58 68719476735 HT_ ?_
   refine un_ [(36, 39), (37, 40), (38, 41), (39, 42), (40, 43), (41, 44), (42, 45)] (fuel := 15) (a' := ?_) (mB 58 8796093022207) rfl HT_ (by kernel_rfl) (by kernel_rfl) (fun _ _ _ _ h => h) ?_ ?_; rotate_left
   ·simp only [unwA, Act.put, sa_, sb_, sc_, i64_w, i32_w]; rfl
   refine pq_ 43 46 58 17592186044415 HT_ ?_
   refine pq_ 44 47 58 35184372088831 HT_ ?_
   refine un_ [(45, 48), (46, 49), (47, 50), (48, 51)] (fuel := 9) (a' := ?_) (mB 58 562949953421311) rfl HT_ (by kernel_rfl) (by kernel_rfl) (fun _ _ _ _ h => h) ?_ ?_; rotate_left
   ·simp only [unwA, Act.put, sa_, sb_, sc_, i64_w, i32_w]; rfl
   refine pq_ 49 52 58 1125899906842623 HT_ ?_
   refine pq_ 50 53 58 2251799813685247 HT_ ?_
   refine un_ [(51, 54), (52, 55), (53, 56), (54, 57), (55, 58)] (fuel := 2) (a' := ?_) (mB 58 72057594037927935) rfl HT_ (by kernel_rfl) (by kernel_rfl) (fun _ _ _ _ h => h) ?_ ?_; rotate_left
   ·simp only [unwA, Act.put, sa_, sb_, sc_, i64_w, i32_w]; rfl
   refine pq_ 56 59 58 144115188075855871 HT_ ?_
   refine pq_ 57 2 58 288230376151711743 HT_ ?_
   refine done_ (done_of HT_.out (by kernel_rfl)) ?_
   try go_wp2
   go_ret; exact ⟨by first | rfl | (simp [*] <;> rfl), bl_ HB⟩
 ·rw [if_neg c2] at H; have aR : decide (1 ≤ a0_1) = false := decide_eq_false c2; clear c2; obtain rfl := Option.some.inj H
  go_enter Try.func15, Try.ntmps15
  try go_wp2_with (first | ((with_reducible refine gate_dst (N := 1) rfl ?_); (try (refine gate_guard (by rfl) ?_; dsimp only)); refine box_event ?hg (N := 1) ?hd (cs := #[.int .u64 a0_0, .int .i64 a0_1, .int .i64 a0_2, .slice A0_3 l0_3.length c0_3, .int .u64 a0_4, .int .i64 a0_5, .slice A0_6 l0_6.length c0_6]) (t := 28) ?hr ?_; (case hd => rfl); (case hg => rfl); (case hr => first | (go_simp; done) | (go_simp; rfl)); intro aB hg bN hbox hb; have aA := mk_ (hbox); have aE := gx_ hg HB; have aF := gx_ hg HB; replace HB := bs_ HB hb; clear hb hbox hg))
  replace aA := bd_ aA; replace HB := mk_ (below_drew1 HB.out); refine start_ (n := 58) (S := fun w' => w'.cell? ⟨aB, 0, none⟩ = some (.int .u64 a0_0) ∧ w'.cell? ⟨aB, 1, none⟩ = some (.int .i64 a0_1) ∧ w'.cell? ⟨aB, 2, none⟩ = some (.int .i64 a0_2) ∧ w'.cell? ⟨aB, 3, none⟩ = some (.slice A0_3 l0_3.length c0_3) ∧ w'.cell? ⟨aB, 4, none⟩ = some (.int .u64 a0_4) ∧ w'.cell? ⟨aB, 5, none⟩ = some (.int .i64 a0_5) ∧ w'.cell? ⟨aB, 6, none⟩ = some (.slice A0_6 l0_6.length c0_6)) (ds := []) (mB 58 0) (by kernel_rfl) rfl rfl ⟨bc_ aA 0, bc_ aA 1, bc_ aA 2, bc_ aA 3, bc_ aA 4, bc_ aA 5, bc_ aA 6⟩ (fun hHeld => ?_); refine with_tabW elastic_Right.tab1 elastic_Right.bits1 (fun HT_ HW_ => ?_); generalize bN.drew = cF at aA HB hHeld ⊢; refine pq_ 0 3 58 1 HT_ ?_
  refine tq_ 1 4 58 3 HT_ HW_ hHeld ?_
  refine pq_ 2 5 58 7 HT_ ?_
  refine pq_ 3 6 58 15 HT_ ?_
  refine un_ [(4, 7), (5, 8), (6, 9)] (fuel := 51) (a' := ?_) (mB 58 127) rfl HT_ (by kernel_rfl) (by kernel_rfl) (fun _ _ _ _ h => h) ?_ ?_; rotate_left
  ·simp only [unwA, Act.put, sa_, sb_, sc_, i64_w, i32_w]; rfl
  refine pq_ 7 10 58 255 HT_ ?_
  refine pq_ 8 11 58 511 HT_ ?_
  refine un_ [(9, 12), (10, 13), (11, 14)] (fuel := 46) (a' := ?_) (mB 58 4095) rfl HT_ (by kernel_rfl) (by kernel_rfl) (fun _ _ _ _ h => h) ?_ ?_; rotate_left
  ·simp only [unwA, Act.put, sa_, sb_, sc_, i64_w, i32_w]; rfl
  refine pq_ 12 15 58 8191 HT_ ?_
  refine pq_ 13 16 58 16383 HT_ ?_
  refine un_ [(14, 17), (15, 18), (16, 19)] (fuel := 41) (a' := ?_) (mB 58 131071) rfl HT_ (by kernel_rfl) (by kernel_rfl) (fun _ _ _ _ h => h) ?_ ?_; rotate_left
  ·simp only [unwA, Act.put, sa_, sb_, sc_, i64_w, i32_w]; rfl
  refine pq_ 17 20 58 262143 HT_ ?_
  refine pq_ 18 21 58 524287 HT_ ?_
  refine un_ [(19, 22), (20, 23), (21, 24), (22, 25)] (fuel := 35) (a' := ?_) (mB 58 8388607) rfl HT_ (by kernel_rfl) (by kernel_rfl) (fun _ _ _ _ h => h) ?_ ?_; rotate_left
  ·simp only [unwA, Act.put, sa_, sb_, sc_, i64_w, i32_w]; rfl
  refine pq_ 23 26 58 16777215 HT_ ?_
  refine pq_ 24 27 58 33554431 HT_ ?_
  refine un_ [(25, 28), (26, 29), (27, 30), (28, 31)] (fuel := 29) (a' := ?_) (mB 58 536870911) rfl HT_ (by kernel_rfl) (by kernel_rfl) (fun _ _ _ _ h => h) ?_ ?_; rotate_left
  ·simp only [unwA, Act.put, sa_, sb_, sc_, i64_w, i32_w]; rfl
  refine pq_ 29 32 58 1073741823 HT_ ?_
  refine pq_ 30 33 58 2147483647 HT_ ?_
  refine un_ [(31, 34), (32, 35), (33, 36)] (fuel := 24) (a' := ?_) (mB 58 17179869183) rfl HT_ (by kernel_rfl) (by kernel_rfl) (fun _ _ _ _ h => h) ?_ ?_; rotate_left
  ·simp only [unwA, Act.put, sa_, sb_, sc_, i64_w, i32_w]; rfl
  refine pq_ 34 37 58 34359738367 HT_ ?_
  refine pq_ 35 38 58 68719476735 HT_ ?_
  refine un_ [(36, 39), (37, 40), (38, 41), (39, 42), (40, 43), (41, 44), (42, 45)] (fuel := 15) (a' := ?_) (mB 58 8796093022207) rfl HT_ (by kernel_rfl) (by kernel_rfl) (fun _ _ _ _ h => h) ?_ ?_; rotate_left
  ·simp only [unwA, Act.put, sa_, sb_, sc_, i64_w, i32_w]; rfl
  refine pq_ 43 46 58 17592186044415 HT_ ?_
  refine pq_ 44 47 58 35184372088831 HT_ ?_
  refine un_ [(45, 48), (46, 49), (47, 50), (48, 51)] (fuel := 9) (a' := ?_) (mB 58 562949953421311) rfl HT_ (by kernel_rfl) (by kernel_rfl) (fun _ _ _ _ h => h) ?_ ?_; rotate_left
  ·simp only [unwA, Act.put, sa_, sb_, sc_, i64_w, i32_w]; rfl
  refine pq_ 49 52 58 1125899906842623 HT_ ?_
  refine pq_ 50 53 58 2251799813685247 HT_ ?_
  refine un_ [(51, 54), (52, 55), (53, 56), (54, 57), (55, 58)] (fuel := 2) (a' := ?_) (mB 58 72057594037927935) rfl HT_ (by kernel_rfl) (by kernel_rfl) (fun _ _ _ _ h => h) ?_ ?_; rotate_left
  ·simp only [unwA, Act.put, sa_, sb_, sc_, i64_w, i32_w]; rfl
  refine pq_ 56 59 58 144115188075855871 HT_ ?_
  refine pq_ 57 2 58 288230376151711743 HT_ ?_
  refine done_ (done_of HT_.out (by kernel_rfl)) ?_
  try go_wp2
  go_ret; exact ⟨by first | rfl | (simp [*] <;> rfl), bl_ HB⟩

end Go.Proofs.Ytljmjjeghebdpaa.PElasticSeen
