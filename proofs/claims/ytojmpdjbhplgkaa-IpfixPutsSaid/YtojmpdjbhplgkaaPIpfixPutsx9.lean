/- The functions that a law uses, each as a plain function, with the proof that a call of the Go function comes to its answer. Condition of each: the arguments read as the data that it names, and the plain function has an answer. Written by a program of this session (standin.py). -/
import Derived.Test.YtojmpdjbhplgkaaPIpfixPutsx0
import Derived.Test.YtojmpdjbhplgkaaPIpfixPutsx8
import Derived.Test.YtojmpdjbhplgkaaShort
import Derived.Lib.SliceRun
import Derived.Test.YtojmpdjbhplgkaaPressMore
namespace Go.Proofs.Ytojmpdjbhplgkaa.PIpfixPuts
open Go.RowKit Go.Proofs.YtojmpdjbhplgkaaW.PrintWords Go.Proofs.YtojmpdjbhplgkaaW.PrintLast Go.Proofs.YtojmpdjbhplgkaaW.PrintMore Go.Proofs.Ytojmpdjbhplgkaa.Short Go.Proofs.Ytojmpdjbhplgkaa.Press Go.Proofs.Ytojmpdjbhplgkaa.PressMore
attribute [local go_sem] max2_int min2_int max_two min_two max_three min_three max_four min_four   -- for this text's walks alone
set_option linter.unusedVariables false
set_option linter.unusedSimpArgs false

/-! ### rillmeterref04_Put: function 52 -/
mutual
def rillmeterref04_Put.j0 : Nat → Int → Int → Bool → Option (ByteArray × Bool)
  | 0, _, _, _ => none
  | k + 1, x0, x1, x23 => if x23 = true then (some ((⟨#[]⟩ : ByteArray), false)) else (rillmeterref04_Put.l0 k x0 x1 (⟨#[]⟩ : ByteArray) 0)
def rillmeterref04_Put.l0 : Nat → Int → Int → ByteArray → Int → Option (ByteArray × Bool)
  | 0, _, _, _, _ => none
  | k + 1, x0, x1, x6, x7 => if x7 < x1 then ((some (([(Int.tmod x0 256) % 256] : List Int) : List Int)).bind fun y287 => (if (strOfNums y287).size + x6.size ≤ 9223372036854775807 then (rillmeterref04_Put.l0 k (wrap64 (Int.tdiv x0 256)) x1 ((strOfNums y287) ++ x6) (wrap64 (x7 + 1))) else (none))) else (some (x6, true))
end
def rillmeterref04_Put.f (k : Nat) (a0 : Int) (a1 : Int) : Option (ByteArray × Bool) := if a1 < 1 then (rillmeterref04_Put.j0 k a0 a1 true) else (if a1 > 7 then (rillmeterref04_Put.j0 k a0 a1 true) else (if a0 < 0 then (rillmeterref04_Put.j0 k a0 a1 true) else ((rillmeterref04_power.f k a1).bind fun t286 => (rillmeterref04_Put.j0 k a0 a1 (decide (a0 ≥ t286))))))
theorem rillmeterref04_Put.mono_l : ∀ k, (∀ y0 y1 y2, LeO (rillmeterref04_Put.j0 k y0 y1 y2) (rillmeterref04_Put.j0 (k + 1) y0 y1 y2)) ∧ (∀ y0 y1 y2 y3, LeO (rillmeterref04_Put.l0 k y0 y1 y2 y3) (rillmeterref04_Put.l0 (k + 1) y0 y1 y2 y3))
  | 0 => ⟨fun _ _ _ r h => by simp [rillmeterref04_Put.j0] at h, fun _ _ _ _ r h => by simp [rillmeterref04_Put.l0] at h⟩
  | k + 1 => by
    obtain ⟨ih0, ih1⟩ := rillmeterref04_Put.mono_l k
    refine ⟨?_, ?_⟩
    · intro y0 y1 y2
      unfold rillmeterref04_Put.j0
      repeat' first
      | (with_reducible exact ih0 _ _ _)
      | (with_reducible exact ih1 _ _ _ _)
      | (with_reducible exact rillmeterref04_power.mono _ _)
      | (with_reducible exact LeO.refl _)
      | (with_reducible exact LeO.none _)
      | (with_reducible refine LeO.ite ?_ ?_)
      | (with_reducible refine LeO.bind ?_ (fun _ => ?_))
      | exact ih0 _ _ _
      | exact ih1 _ _ _ _
      | exact rillmeterref04_power.mono _ _
      | exact LeO.none _
      | refine LeO.ite ?_ ?_
      | refine LeO.bind ?_ (fun _ => ?_)
    · intro y0 y1 y2 y3
      unfold rillmeterref04_Put.l0
      repeat' first
      | (with_reducible exact ih0 _ _ _)
      | (with_reducible exact ih1 _ _ _ _)
      | (with_reducible exact rillmeterref04_power.mono _ _)
      | (with_reducible exact LeO.refl _)
      | (with_reducible exact LeO.none _)
      | (with_reducible refine LeO.ite ?_ ?_)
      | (with_reducible refine LeO.bind ?_ (fun _ => ?_))
      | exact ih0 _ _ _
      | exact ih1 _ _ _ _
      | exact rillmeterref04_power.mono _ _
      | exact LeO.none _
      | refine LeO.ite ?_ ?_
      | refine LeO.bind ?_ (fun _ => ?_)
theorem rillmeterref04_Put.mono : ∀ a0 a1 k, LeO (rillmeterref04_Put.f k a0 a1) (rillmeterref04_Put.f (k + 1) a0 a1) := by
  intro a0 a1 k
  obtain ⟨ih0, ih1⟩ := rillmeterref04_Put.mono_l k
  unfold rillmeterref04_Put.f
  repeat' first
      | (with_reducible exact ih0 _ _ _)
      | (with_reducible exact ih1 _ _ _ _)
      | (with_reducible exact rillmeterref04_power.mono _ _)
      | (with_reducible exact LeO.refl _)
      | (with_reducible exact LeO.none _)
      | (with_reducible refine LeO.ite ?_ ?_)
      | (with_reducible refine LeO.bind ?_ (fun _ => ?_))
      | exact ih0 _ _ _
      | exact ih1 _ _ _ _
      | exact rillmeterref04_power.mono _ _
      | exact LeO.none _
      | refine LeO.ite ?_ ?_
      | refine LeO.bind ?_ (fun _ => ?_)
set_option maxHeartbeats 80000000 in
set_option maxRecDepth 100000 in
theorem rillmeterref04_Put.calls (k : Nat) (a0 : Int) (a1 : Int) (r1 : ByteArray) (r2 : Bool) (w : World) (h : rillmeterref04_Put.f k a0 a1 = some (r1, r2)) :
    Calls Try.prog 52 #[.int .i64 a0, .int .i64 a1] w fun e w' => e = .returned (.tuple #[.string r1, .bool r2]) ∧ Below w.heap.size w w' := by
 have HB := mk_ (Below.refl w.heap.size w); have H : (if a1 < 1 then (rillmeterref04_Put.j0 k a0 a1 true) else (if a1 > 7 then (rillmeterref04_Put.j0 k a0 a1 true) else (if a0 < 0 then (rillmeterref04_Put.j0 k a0 a1 true) else ((rillmeterref04_power.f k a1).bind fun aE => (rillmeterref04_Put.j0 k a0 a1 (decide (a0 ≥ aE))))))) = some (r1, r2) := h; clear h; have HC3 := mk_ H; clear H
 go_enter Try.func52, Try.ntmps52
 go_upto_region 1 with (fail)
 go_cut [23] (fun aM wc => ∃ (kq : Nat) (aG : Bool), aM = .bool aG ∧ Aside0 (rillmeterref04_Put.j0 kq a0 a1 aG = some (r1, r2)) ∧ Aside0 (kq ≤ k) ∧ Aside0 (Below w.heap.size w wc))
 case first =>
  have H := HC3.out; clear HC3
  by_cases c4 : a1 < 1
  ·rw [if_pos c4] at H; have aD : decide (a1 < 1) = true := decide_eq_true c4; clear c4
   (first | rw [aD] | (simp only [i64_w, i32_w]; rw [aD]) | skip)
   have H' := mk_ H; clear H
   go_wp2
   go_meet
   case rel => exact ⟨_, (true), (by first | rfl | (simp; done) | (simp [*]; done)), H', ⟨by first | omega | exact Nat.le_refl _⟩, ⟨bl_ HB⟩⟩
  ·rw [if_neg c4] at H; have aD : decide (a1 < 1) = false := decide_eq_false c4; clear c4
   (first | rw [aD] | (simp only [i64_w, i32_w]; rw [aD]) | skip)
   by_cases c5 : a1 > 7
   ·rw [if_pos c5] at H; have aH : decide (7 < a1) = true := decide_eq_true c5; clear c5; have H' := mk_ H; clear H
    go_wp2
    go_meet
    case rel => exact ⟨_, (true), (by first | rfl | (simp; done) | (simp [*]; done)), H', ⟨by first | omega | exact Nat.le_refl _⟩, ⟨bl_ HB⟩⟩
   ·rw [if_neg c5] at H; have aH : decide (7 < a1) = false := decide_eq_false c5; clear c5
    by_cases c6 : a0 < 0
    ·rw [if_pos c6] at H; have aI : decide (a0 < 0) = true := decide_eq_true c6; clear c6; have H' := mk_ H; clear H
     go_wp2
     go_meet
     case rel => exact ⟨_, (true), (by first | rfl | (simp; done) | (simp [*]; done)), H', ⟨by first | omega | exact Nat.le_refl _⟩, ⟨bl_ HB⟩⟩
    ·rw [if_neg c6] at H; have aI : decide (a0 < 0) = false := decide_eq_false c6; clear c6; replace H := Option.bind_eq_some_iff.mp H; obtain ⟨aE, aK, H⟩ := H; replace H : (rillmeterref04_Put.j0 k a0 a1 (decide (a0 ≥ aE))) = some (r1, r2) := H; have A7 := mk_ aK; clear aK; have H' := mk_ H; clear H
     go_wp2_with (first | (go_at_call 59; (with_reducible refine (rillmeterref04_power.calls k a1 aE _ A7.out).mono ?_); rintro e w' ⟨rfl, ⟨nd, rfl⟩⟩))
     go_meet
     case rel => exact ⟨_, (decide (a0 ≥ aE)), (by first | rfl | (simp; done) | (simp [*]; done)), H', ⟨by first | omega | exact Nat.le_refl _⟩, ⟨bl_ HB⟩⟩
 case rest =>
  clear HC3; (try clear p2); (try clear c4); (try clear aD); (try clear c5); (try clear aH); (try clear c6); (try clear aI); obtain ⟨kq, aG, rfl, HA, HJ2, HB⟩ := hcut
  cases kq with
  | zero => exact absurd HA.out (by simp [rillmeterref04_Put.j0])
  | succ aJ =>
   have H := HA.out; clear HA; simp only [rillmeterref04_Put.j0] at H
   by_cases c8 : aG = true
   ·subst c8
    have H1 : (some ((⟨#[]⟩ : ByteArray), false)) = some (r1, r2) := by rw [if_pos rfl] at H; exact H
    clear H; have H := H1; clear H1; simp only [Option.some.injEq, Prod.mk.injEq] at H; obtain ⟨rfl, rfl⟩ := H
    go_wp2
    go_ret2
    exact ⟨by first | rfl | (simp [errW_none, errW_some] <;> rfl) | (simp [*, errW_none, errW_some] <;> rfl), bl_ HB⟩
   ·replace c8 := Bool.eq_false_iff.mpr c8; subst c8
    have H1 : (rillmeterref04_Put.l0 aJ a0 a1 (⟨#[]⟩ : ByteArray) 0) = some (r1, r2) := by rw [if_neg (show ¬ (false = true) by decide)] at H; exact H
    clear H; have H := H1; clear H1; have H' := mk_ H; clear H
    go_wp2
    go_loopg [0, 6, 7] aJ (fun kq v0 v6 v7 w' => ∃ (aA : Int) (aB : ByteArray) (aC : Int), v0 = .int .i64 aA ∧ v6 = .string aB ∧ v7 = .int .i64 aC ∧ Aside0 (rillmeterref04_Put.l0 kq aA a1 aB aC = some (r1, r2)) ∧ Aside0 (kq ≤ aJ) ∧ Aside0 (Below w.heap.size w w'))
    case atStart => exact ⟨(a0), ((⟨#[]⟩ : ByteArray)), (0), (by first | rfl | (simp; done) | (simp [*]; done)), (by first | rfl | (simp; done) | (simp [*]; done)), (by first | rfl | (simp; done) | (simp [*]; done)), H', ⟨Nat.le_refl _⟩, ⟨bl_ HB⟩⟩
    case round =>
     clear H'; (try clear p2); (try clear c4); (try clear aD); (try clear c5); (try clear aH); (try clear c6); (try clear aI); (try clear c8); (try clear p2); obtain ⟨aA, aB, aC, rfl, rfl, rfl, HA, HK2, HB⟩ := hrel
     cases gk with
     | zero => exact absurd HA.out (by simp [rillmeterref04_Put.l0])
     | succ k2 =>
      have H := HA.out; clear HA; simp only [rillmeterref04_Put.l0] at H
      by_cases c9 : aC < a1
      ·rw [if_pos c9] at H; have aN : decide (aC < a1) = true := decide_eq_true c9; clear c9; obtain ⟨y287, hy287⟩ : ∃ y_ : List Int, y_ = (([(Int.tmod aA 256) % 256] : List Int)) := ⟨_, rfl⟩
       replace H : (if (strOfNums y287).size + aB.size ≤ 9223372036854775807 then (rillmeterref04_Put.l0 k2 (wrap64 (Int.tdiv aA 256)) a1 ((strOfNums y287) ++ aB) (wrap64 (aC + 1))) else (none)) = some (r1, r2) := by first | (rw [hy287]; with_reducible exact H) | (have H2_ := (Option.bind_some _ _).symm.trans H; rw [hy287]; with_reducible exact H2_) | (have H2_ := (Option.bind_some _ _).symm.trans H; with_reducible exact H2_) | with_reducible exact H | (rw [hy287]; exact H) | exact H
       have aL := mk_ hy287; clear hy287
       by_cases aF : (strOfNums y287).size + aB.size ≤ 9223372036854775807
       ·rw [if_pos aF] at H; have aP := eq_true aF; have aQ : decide ((strOfNums y287).size + aB.size ≤ 9223372036854775807) = true := decide_eq_true aF
        try have aR : (9223372036854775807 < (strOfNums y287).size + aB.size) = False := eq_false (Nat.not_lt.2 aF)
        have H' := mk_ H; clear H
        go_wp2_with (first | ((with_reducible refine gate_dst (N := 32) rfl ?_); refine Kd.R_lit (Kd.int .u8) _ 5 ?hg (N := 32) ?hd (xs := ([(Int.tmod aA 256) % 256] : List Int)) (inner := [.int .u8 ((Int.tmod aA 256) % 256)]) (ok := fun _ => True) (okp := fun _ => True) ?hr ?hp (fun _ hk => hk) trivial (Below.refl _ _) (Nat.le_refl _) (by simp) ?_; (case hd => rfl); (case hg => rfl); (case hr => first | (go_simp; done) | (go_simp; rfl)); (case hp => exact (Reps.one (show Kd.M (Kd.int .u8) _ _ _ ((Int.tmod aA 256) % 256) [.int .u8 ((Int.tmod aA 256) % 256)] from rfl) (Reps.none _ _))); intro aS aT ho12 hb hg_ hnew_; clear hg_ hnew_; (first | rw [← aL.out] at ho12 | (simp only [Int.reduceToNat] at ho12; rw [← aL.out] at ho12)); have n0_ := mk_ (Kd.R_lower ho12 (below_size (bl_ HB))); have n1_ := bs_ HB hb; clear HB; have aO := n0_; have HB := n1_; clear n0_ n1_; clear hb ho12; have hcv13 := own_string (P := Try.prog) Try.underlying26 Try.underlying5 Try.underlying9 (Kd.own_of_R aO.out)))
        go_roundg k2
        case measure => have := HJ2.out; have := HK2.out; omega
        case rel => exact ⟨(wrap64 (Int.tdiv aA 256)), ((strOfNums y287) ++ aB), (wrap64 (aC + 1)), (by first | rfl | (simp; done) | (simp [*]; done)), (by first | rfl | (simp; done) | (simp [*]; done)), (by first | rfl | (simp; done) | (simp [*]; done)), H', ⟨by have := HJ2.out; have := HK2.out; omega⟩, ⟨bl_ HB⟩⟩
       ·rw [if_neg aF] at H; exact absurd H (by simp)
      ·rw [if_neg c9] at H; have aN : decide (aC < a1) = false := decide_eq_false c9; clear c9; simp only [Option.some.injEq, Prod.mk.injEq] at H; obtain ⟨rfl, rfl⟩ := H
       go_wp2
       go_ret2
       exact ⟨by first | rfl | (simp [errW_none, errW_some] <;> rfl) | (simp [*, errW_none, errW_some] <;> rfl), bl_ HB⟩

/-! ### rillmeterref22_num: function 38 -/
def rillmeterref22_num.f (k : Nat) (a0 : Int) (a1 : Int) : Option (ByteArray) := (rillmeterref04_Put.f k a0 a1).bind fun bt290 => (some bt290.1)
theorem rillmeterref22_num.mono : ∀ a0 a1 k, LeO (rillmeterref22_num.f k a0 a1) (rillmeterref22_num.f (k + 1) a0 a1) := by
  intro a0 a1 k
  unfold rillmeterref22_num.f
  repeat' first
      | (with_reducible exact rillmeterref04_Put.mono _ _ _)
      | (with_reducible exact LeO.refl _)
      | (with_reducible exact LeO.none _)
      | (with_reducible refine LeO.ite ?_ ?_)
      | (with_reducible refine LeO.bind ?_ (fun _ => ?_))
      | exact rillmeterref04_Put.mono _ _ _
      | exact LeO.none _
      | refine LeO.ite ?_ ?_
      | refine LeO.bind ?_ (fun _ => ?_)
set_option maxHeartbeats 80000000 in
set_option maxRecDepth 100000 in
theorem rillmeterref22_num.calls (k : Nat) (a0 : Int) (a1 : Int) (r : ByteArray) (w : World) (h : rillmeterref22_num.f k a0 a1 = some r) :
    Calls Try.prog 38 #[.int .i64 a0, .int .i64 a1] w fun e w' => e = .returned (.string r) ∧ Below w.heap.size w w' := by
 have HB := mk_ (Below.refl w.heap.size w); have H : ((rillmeterref04_Put.f k a0 a1).bind fun bt290 => (some bt290.1)) = some r := h; clear h; replace H := Option.bind_eq_some_iff.mp H; obtain ⟨⟨aA, aC⟩, aB, H⟩ := H; replace H : (some aA) = some r := H; have A3 := mk_ aB; clear aB; obtain rfl := Option.some.inj H
 go_enter Try.func38, Try.ntmps38
 go_wp2_with (first | ((with_reducible refine gate_callee (f := 52) rfl ?_); refine goesL_ (some 10) rfl rfl Try.func52 (by kernel_rfl) rfl #[.int .i64 a0, .int .i64 a1] rfl (by (try simp only [List.map_toArray, List.map_cons, List.map_nil]); first | done | rfl | (simp only [List.length_drop, List.length_take]; rfl)) ?_; (with_reducible refine (rillmeterref04_Put.calls k a0 a1 aA aC _ A3.out).mono ?_); rintro e w4 ⟨rfl, hb⟩; refine ⟨_, rfl, ?_⟩; have n0_ := bs_ HB hb; clear HB; have HB := n0_; clear n0_; (try clear hb); (try clear hb2); (try clear hk); (try clear hi)))
 go_ret; exact ⟨by first | rfl | (simp [errW_none, errW_some] <;> rfl) | (simp [*, errW_none, errW_some] <;> rfl), bl_ HB⟩

end Go.Proofs.Ytojmpdjbhplgkaa.PIpfixPuts
