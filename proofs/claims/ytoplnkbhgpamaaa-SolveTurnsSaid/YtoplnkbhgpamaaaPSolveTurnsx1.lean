/- The functions that a law uses, each as a plain function, with the proof that a call of the Go function comes to its answer. Condition of each: the arguments read as the data that it names, and the plain function has an answer. Written by a program of this session (standin.py). -/
import Derived.Test.YtoplnkbhgpamaaaPSolveTurnsx0
import Derived.Lib.SliceRun
import Derived.Shelf.Abstract
namespace Go.Proofs.Ytoplnkbhgpamaaa.PSolveTurns
open Go.RowKit Go.Proofs.YtoplnkbhgpamaaaW.PrintWords Go.Proofs.YtoplnkbhgpamaaaW.PrintLast Go.Proofs.YtoplnkbhgpamaaaW.PrintMore
attribute [local go_sem] max2_int min2_int max_two min_two max_three min_three max_four min_four   -- for this text's walks alone
set_option linter.unusedVariables false
set_option linter.unusedSimpArgs false

/-! ### rillmeterref03_Small: function 9 -/
def rillmeterref03_Small.l0 : Nat → List (List Int) → Int → Int → Option (Bool)
  | 0, _, _, _ => none
  | k + 1, x0, x1, x5 => if x5 < (x0.length : Int) then (if 0 ≤ x5 then (if ((rd_L1 x0 x5).length : Int) > x1 then (some false) else (rillmeterref03_Small.l0 k x0 x1 (wrap64 (x5 + 1)))) else (none)) else (some true)
def rillmeterref03_Small.f (k : Nat) (l0 : List (List Int)) (a1 : Int) : Option (Bool) := if (l0.length : Int) > a1 then (some false) else (rillmeterref03_Small.l0 k l0 a1 0)
theorem rillmeterref03_Small.mono_l : ∀ k, (∀ y0 y1 y2, LeO (rillmeterref03_Small.l0 k y0 y1 y2) (rillmeterref03_Small.l0 (k + 1) y0 y1 y2))
  | 0 => fun _ _ _ r h => by simp [rillmeterref03_Small.l0] at h
  | k + 1 => by
    have ih0 := rillmeterref03_Small.mono_l k
    · intro y0 y1 y2
      unfold rillmeterref03_Small.l0
      repeat' first
      | (with_reducible exact ih0 _ _ _)
      | (with_reducible exact LeO.refl _)
      | (with_reducible exact LeO.none _)
      | (with_reducible refine LeO.ite ?_ ?_)
      | (with_reducible refine LeO.bind ?_ (fun _ => ?_))
      | exact ih0 _ _ _
      | exact LeO.none _
      | refine LeO.ite ?_ ?_
      | refine LeO.bind ?_ (fun _ => ?_)
theorem rillmeterref03_Small.mono : ∀ a0 a1 k, LeO (rillmeterref03_Small.f k a0 a1) (rillmeterref03_Small.f (k + 1) a0 a1) := by
  intro a0 a1 k
  have ih0 := rillmeterref03_Small.mono_l k
  unfold rillmeterref03_Small.f
  repeat' first
      | (with_reducible exact ih0 _ _ _)
      | (with_reducible exact LeO.refl _)
      | (with_reducible exact LeO.none _)
      | (with_reducible refine LeO.ite ?_ ?_)
      | (with_reducible refine LeO.bind ?_ (fun _ => ?_))
      | exact ih0 _ _ _
      | exact LeO.none _
      | refine LeO.ite ?_ ?_
      | refine LeO.bind ?_ (fun _ => ?_)
set_option maxHeartbeats 8000000 in
set_option maxRecDepth 100000 in
theorem rillmeterref03_Small.calls (k : Nat) (A0 : Option Addr) (c0 : Nat) (l0 : List (List Int)) (a1 : Int) (r : Bool) (w : World) (hr0 : Kd.C (Kd.slice 36 (Kd.int .u64)) w A0 l0.length l0) (hc0 : l0.length ≤ c0) (h : rillmeterref03_Small.f k l0 a1 = some r) :
    Calls Try.prog 9 #[.slice A0 l0.length c0, .int .i64 a1] w fun e w' => e = .returned (.bool r) ∧ Drawn0 w w' := by
  have HR0 := Aside0.mk hr0
  have HC0 := Aside0.mk hc0
  clear hr0 hc0
  have H : (if (l0.length : Int) > a1 then (some false) else (rillmeterref03_Small.l0 k l0 a1 0)) = some r := h
  clear h
  by_cases c3 : (l0.length : Int) > a1
  · rw [if_pos c3] at H
    have c3b0 : decide (a1 < (l0.length : Int)) = true := decide_eq_true c3
    clear c3
    obtain rfl := Option.some.inj H
    go_enter Try.func9, Try.ntmps9
    go_wp2
    go_ret
    exact ⟨by first | rfl | (simp; done) | (simp [*]; done), by repeat (first | exact Drawn0.refl _ | apply Drawn0.step)⟩
  · rw [if_neg c3] at H
    have c3b0 : decide (a1 < (l0.length : Int)) = false := decide_eq_false c3
    clear c3
    have H' := Aside0.mk H
    clear H
    go_enter Try.func9, Try.ntmps9
    go_wp2
    go_loopg [5] k (fun kq v5 w' => ∃ (x5_1 : Int), v5 = .int .i64 x5_1 ∧ Aside0 (rillmeterref03_Small.l0 kq l0 a1 x5_1 = some r) ∧ Aside0 (kq ≤ k) ∧ Drawn0 w w')
    case atStart => exact ⟨(0), (by first | rfl | (simp; done) | (simp [*]; done)), H', ⟨Nat.le_refl _⟩, by repeat (first | exact Drawn0.refl _ | apply Drawn0.step)⟩
    case round =>
      clear H'
      try clear p2
      try clear c3
      try clear c3b0
      obtain ⟨x5_1, rfl, HA, HK1, ⟨m1, rfl⟩⟩ := hrel
      cases gk with
      | zero => exact absurd HA.out (by simp [rillmeterref03_Small.l0])
      | succ k1 =>
        have H := HA.out
        clear HA
        simp only [rillmeterref03_Small.l0] at H
        by_cases c4 : x5_1 < (l0.length : Int)
        · rw [if_pos c4] at H
          have c4b0 : decide (x5_1 < (l0.length : Int)) = true := decide_eq_true c4
          clear c4
          by_cases c5 : 0 ≤ x5_1
          · rw [if_pos c5] at H
            have c5b0 : decide (0 ≤ x5_1) = true := decide_eq_true c5
            clear c5
            by_cases c6 : ((rd_L1 l0 x5_1).length : Int) > a1
            · rw [if_pos c6] at H
              have c6b0 : decide (a1 < ((rd_L1 l0 x5_1).length : Int)) = true := decide_eq_true c6
              clear c6
              obtain rfl := Option.some.inj H
              have p101 : 0 ≤ (x5_1 : Int) := of_decide_eq_true (by first | (with_reducible assumption) | assumption)
              have q101 : x5_1 < (l0.length : Int) := of_decide_eq_true (by first | (with_reducible assumption) | assumption)
              obtain ⟨ad101, A101_0, c101_0, e101, hx101_0, hl101_0, hi101_0⟩ := at_L1 HR0.out x5_1 p101 q101
              cases e101
              have HR101_0 := Aside0.mk hi101_0
              have HC101_0 := Aside0.mk hl101_0
              clear hi101_0 hl101_0
              replace p101 := eq_true p101
              replace q101 := eq_true q101
              go_wp2
              go_ret
              exact ⟨by first | rfl | (simp; done) | (simp [*]; done), by repeat (first | exact Drawn0.refl _ | apply Drawn0.step)⟩
            · rw [if_neg c6] at H
              have c6b0 : decide (a1 < ((rd_L1 l0 x5_1).length : Int)) = false := decide_eq_false c6
              clear c6
              have H' := Aside0.mk H
              clear H
              have p101 : 0 ≤ (x5_1 : Int) := of_decide_eq_true (by first | (with_reducible assumption) | assumption)
              have q101 : x5_1 < (l0.length : Int) := of_decide_eq_true (by first | (with_reducible assumption) | assumption)
              obtain ⟨ad101, A101_0, c101_0, e101, hx101_0, hl101_0, hi101_0⟩ := at_L1 HR0.out x5_1 p101 q101
              cases e101
              have HR101_0 := Aside0.mk hi101_0
              have HC101_0 := Aside0.mk hl101_0
              clear hi101_0 hl101_0
              replace p101 := eq_true p101
              replace q101 := eq_true q101
              go_wp2
              go_roundg k1
              case measure => have := HK1.out; omega
              case rel => exact ⟨(wrap64 (x5_1 + 1)), (by first | rfl | (simp; done) | (simp [*]; done)), H', ⟨by have := HK1.out; omega⟩, by repeat (first | exact Drawn0.refl _ | apply Drawn0.step)⟩
          · rw [if_neg c5] at H
            exact absurd H (by simp)
        · rw [if_neg c4] at H
          have c4b0 : decide (x5_1 < (l0.length : Int)) = false := decide_eq_false c4
          clear c4
          obtain rfl := Option.some.inj H
          go_wp2
          go_ret
          exact ⟨by first | rfl | (simp; done) | (simp [*]; done), by repeat (first | exact Drawn0.refl _ | apply Drawn0.step)⟩

-- NOT PRINTED: function 36 (slices_IndexFunc_uint64_uint64)

-- NOT PRINTED: function 28 (slices_ContainsFunc_uint64_uint64)

/-! ### solve_even: function 20 -/
/-- a row as long as the first one, of at most 32 numbers -/
def solve_even.row (l : List (List Int)) (r : List Int) : Bool := decide (r.length = (rd_L1 l 0).length) && decide (r.length ≤ 32)

def solve_even.f (l0 : List (List Int)) : Option (Bool) := some (decide (l0.length ≤ 32) && l0.all (solve_even.row l0))

/-- the literal's own walk -/
theorem solve_even.lit (r : List Int) (Ar : Option Addr) (cr : Nat) (B : Nat) (A : Option Addr) (c : Nat) (l : List (List Int)) (W : World) (hbox : W.heap[B]? = some (.cells #[.slice A l.length c] 22 (0, 0)))
    (hr : Kd.C (Kd.slice 36 (Kd.int .u64)) W A l.length l) (h0 : 0 < (l.length : Int)) :
    Calls Try.prog 29 #[.slice Ar r.length cr, .pointer (some ⟨B, 0, none⟩)] W fun e w' => e = .returned (.bool (!(solve_even.row l r))) ∧ Below W.heap.size W w' := by
  have hu_ := Try.underlying22
  have HB := Aside0.mk (Below.refl W.heap.size W)
  obtain ⟨ad, A1, c1, e, hx, hl1, hi1⟩ := at_L1 hr 0 (Int.le_refl _) h0
  cases e
  rw [show ((0 : Int)).toNat = 0 from rfl, Addr.add_zero'] at hx
  have hc : W.cell? ⟨B, 0, none⟩ = some (.slice (some ad) l.length c) := (blk_cell hbox 0).trans rfl
  clear hr hbox hl1 hi1
  generalize hR : rd_L1 l 0 = q at *
  have d0 : decide (0 < (l.length : Int)) = true := decide_eq_true h0
  have d1 : decide (0 < l.length) = true := decide_eq_true (by omega)
  have p0 := eq_true h0
  have e_ : solve_even.row l r = (decide (r.length = q.length) && decide (r.length ≤ 32)) := by unfold solve_even.row; rw [hR]
  rw [e_]
  clear e_ hR
  by_cases g2 : (r.length : Int) = (q.length : Int)
  · have b4 : ((r.length : Int) != (q.length : Int)) = false := bne_eq_false_iff_eq.mpr g2
    have b5 : decide (r.length = q.length) = true := decide_eq_true (by omega)
    have b6 : ((r.length : Int) == (q.length : Int)) = true := beq_iff_eq.mpr g2
    have b7 : (r.length == q.length) = true := by first | simpa using g2 | (simp at g2 ⊢; omega)
    rw [b5, Bool.true_and]
    by_cases g1 : (r.length : Int) > 32
    · have b2 : decide ((r.length : Int) > 32) = true := decide_eq_true g1
      have b3 : decide (r.length ≤ 32) = false := decide_eq_false (by omega)
      rw [b3]
      clear b3 b5 g2
      go_enter Try.func29, Try.ntmps29
      go_wp2
      go_ret
      exact ⟨rfl, by repeat (first | (with_reducible first | exact HB.out | apply below_alloc | apply pw_below_drewN | apply below_drew1) | exact HB.out)⟩
    · have b2 : decide ((r.length : Int) > 32) = false := decide_eq_false g1
      have b3 : decide (r.length ≤ 32) = true := decide_eq_true (by omega)
      rw [b3]
      clear b3 b5 g2
      go_enter Try.func29, Try.ntmps29
      go_wp2
      go_ret
      exact ⟨rfl, by repeat (first | (with_reducible first | exact HB.out | apply below_alloc | apply pw_below_drewN | apply below_drew1) | exact HB.out)⟩
  · have b4 : ((r.length : Int) != (q.length : Int)) = true := bne_iff_ne.mpr g2
    have b5 : decide (r.length = q.length) = false := decide_eq_false (by omega)
    have b6 : ((r.length : Int) == (q.length : Int)) = false := beq_eq_false_iff_ne.mpr g2
    have b7 : (r.length == q.length) = false := by first | simpa using g2 | (simp at g2 ⊢; omega)
    rw [b5, Bool.false_and]
    go_enter Try.func29, Try.ntmps29
    go_wp2
    go_ret
    exact ⟨rfl, by repeat (first | (with_reducible first | exact HB.out | apply below_alloc | apply pw_below_drewN | apply below_drew1) | exact HB.out)⟩

def solve_even.Tells (r : Bool) (w : World) (e : Ending) (w' : World) : Prop := ∃ n : Int, e = .returned (.int .i64 n) ∧ decide (0 ≤ n) = !r ∧ Below w.heap.size w w'

theorem solve_even.drop_cons (l : List (List Int)) (k : Nat) (h : k < l.length) : l.drop k = rd_L1 l (k : Int) :: l.drop (k + 1) := by
  rw [List.drop_eq_getElem_cons h]
  simp [rd_L1, List.getD_eq_getElem?_getD, h]

set_option maxHeartbeats 2000000 in
theorem solve_even.index (B : Nat) (A : Option Addr) (c : Nat) (l : List (List Int)) (w : World)
    (hbox : w.heap[B]? = some (.cells #[.slice A l.length c] 22 (0, 0)))
    (hr : Kd.C (Kd.slice 36 (Kd.int .u64)) w A l.length l) (hlen : l.length ≤ 9223372036854775807) :
    Calls Try.prog 36 #[.slice A l.length c, .func (.func 29) #[] #[.pointer (some ⟨B, 0, none⟩)]] w (solve_even.Tells (l.all (solve_even.row l)) w) := by
  have HR := Aside0.mk hr
  have HX := Aside0.mk hbox
  clear hr hbox
  have e31_ : ∀ (args : Array Value) (w : World), (callFunc 29 args).run Try.prog w = .ok (.enter 29 args) w := fun args w => enters_ Try.func29 (by kernel_rfl) rfl args w
  go_enter Try.func36, Try.ntmps36
  go_wp2
  go_loopg [5, 8] l.length (fun gg _ s8 wr => ∃ kk : Nat, kk ≤ l.length ∧ l.length - kk ≤ gg ∧ s8 = .int .i64 kk ∧ Aside0 (Below w.heap.size w wr) ∧ Aside0 ((l.drop kk).all (solve_even.row l) = l.all (solve_even.row l)))
  case atStart => exact ⟨0, Nat.zero_le _, by omega, rfl, ⟨Below.refl _ w⟩, ⟨by rw [List.drop_zero]⟩⟩
  case round =>
    obtain ⟨kk, hkk, hg, rfl, BW, HA⟩ := hrel
    by_cases hlt : kk < l.length
    · have h2 := HA.out
      rw [solve_even.drop_cons l kk hlt, List.all_cons] at h2
      have hltz : (kk : Int) < (l.length : Int) := by omega
      have hk0 : (0 : Int) ≤ (kk : Int) := by omega
      obtain ⟨ad, A1, c1, e, hx, hl1, hi1⟩ := at_L1 HR.out (kk : Int) hk0 hltz
      have hx' := (BW.out.cell (World.block_lt_of_cell? w _ hx)).trans hx
      clear hx hl1 hi1
      rw [Int.toNat_natCast] at hx'
      cases e
      have hcall := solve_even.lit (rd_L1 l (kk : Int)) A1 c1 B (some ad) c l wr (blk_below HX.out BW.out) (Kd.C_below HR.out BW.out) (by omega)
      obtain ⟨b, hb⟩ : ∃ b, b = solve_even.row l (rd_L1 l (kk : Int)) := ⟨_, rfl⟩
      rw [← hb] at h2 hcall
      clear hb
      generalize rd_L1 l (kk : Int) = y at *
      cases b with
      | true =>
        rw [Bool.true_and] at h2
        have H2 := Aside0.mk h2
        clear h2
        go_wp2_with (go_at_fn 29; refine hcall.mono ?_; rintro e w' ⟨rfl, hb'⟩)
        go_roundg (l.length - (kk + 1))
        case measure => omega
        case rel => exact ⟨kk + 1, by omega, by omega, by go_num, ⟨BW.out.trans (hb'.mono BW.out.size)⟩, H2⟩
      | false =>
        rw [Bool.false_and] at h2
        rw [← h2]
        clear h2
        go_wp2_with (go_at_fn 29; refine hcall.mono ?_; rintro e w' ⟨rfl, hb'⟩)
        go_ret
        exact ⟨(kk : Int), rfl, decide_eq_true (by omega), BW.out.trans (hb'.mono BW.out.size)⟩
    · have hltz : ¬ (kk : Int) < (l.length : Int) := by omega
      have : kk = l.length := by omega
      subst this
      have h2 := HA.out
      rw [List.drop_length, List.all_nil] at h2
      have H2 := Aside0.mk h2
      clear h2
      go_wp2
      go_ret
      exact ⟨-1, rfl, by rw [← H2.out]; rfl, BW.out⟩

theorem solve_even.contains (B : Nat) (A : Option Addr) (c : Nat) (l : List (List Int)) (w : World)
    (hbox : w.heap[B]? = some (.cells #[.slice A l.length c] 22 (0, 0)))
    (hr : Kd.C (Kd.slice 36 (Kd.int .u64)) w A l.length l) (hlen : l.length ≤ 9223372036854775807) :
    Calls Try.prog 28 #[.slice A l.length c, .func (.func 29) #[] #[.pointer (some ⟨B, 0, none⟩)]] w fun e w' => e = .returned (.bool (!(l.all (solve_even.row l)))) ∧ Below w.heap.size w w' := by
  have hcall := solve_even.index B A c l w hbox hr hlen
  clear hbox hr
  have e40_ : ∀ (args : Array Value) (w : World), (callFunc 36 args).run Try.prog w = .ok (.enter 36 args) w := fun args w => enters_ Try.func36 (by kernel_rfl) rfl args w
  generalize l.all (solve_even.row l) = r at *
  go_enter Try.func28, Try.ntmps28
  go_wp2_with (go_at_fn 36; refine hcall.mono ?_; rintro e w' ⟨n, rfl, hn, hb⟩; have HN := Aside0.mk hn; clear hn)
  go_ret
  rw [HN.out]
  exact ⟨rfl, hb⟩
set_option maxHeartbeats 8000000 in
set_option maxRecDepth 100000 in
theorem solve_even.calls (A0 : Option Addr) (c0 : Nat) (l0 : List (List Int)) (r : Bool) (w : World) (hr0 : Kd.C (Kd.slice 36 (Kd.int .u64)) w A0 l0.length l0) (hc0 : l0.length ≤ c0) (h : solve_even.f l0 = some r) :
    Calls Try.prog 20 #[.slice A0 l0.length c0] w fun e w' => e = .returned (.bool r) ∧ Below w.heap.size w w' := by
  have hu_ := Try.underlying22
  have HR := Aside0.mk hr0
  have HC := Aside0.mk hc0
  clear hr0 hc0
  unfold solve_even.f at h
  obtain rfl := Option.some.inj h
  clear h
  have e24_ : ∀ (args : Array Value) (w : World), (callFunc 28 args).run Try.prog w = .ok (.enter 28 args) w := fun args w => enters_ Try.func28 (by kernel_rfl) rfl args w
  by_cases g1 : (l0.length : Int) ≤ 32
  · have b2 : decide ((l0.length : Int) ≤ 32) = true := decide_eq_true g1
    have b3 : decide (l0.length ≤ 32) = true := decide_eq_true (by omega)
    rw [b3, Bool.true_and]
    have hlen : l0.length ≤ 9223372036854775807 := by omega
    go_enter Try.func20, Try.ntmps20
    go_wp2_with (first | ((with_reducible refine gate_dst (N := 1) rfl ?_); refine box_event ?hg (N := 1) ?hd (cs := #[.slice A0 l0.length c0]) (t := 22) ?hr ?_; (case hd => rfl); (case hg => rfl); (case hr => first | (go_simp; done) | (go_simp; rfl)); intro gb hgb w2 hbox hb; have BK := Aside0.mk hbox; have HB := Aside0.mk hb; have hz1 : w2.cell? ⟨gb, 0, none⟩ = some (.slice A0 l0.length c0) := (blk_cell hbox 0).trans rfl; clear hbox hb hgb) | (go_at_fn 28; refine (solve_even.contains gb A0 c0 l0 _ (by first | exact BK.out | exact blk_drew BK.out) (by first | exact Kd.C_below HR.out HB.out | exact Kd.C_drew (Kd.C_below HR.out HB.out)) hlen).mono ?_; rintro e w3 ⟨rfl, hb3⟩; have HB3 := Aside0.mk (below_step (by repeat (first | (with_reducible first | exact HB.out | apply below_alloc | apply pw_below_drewN | apply below_drew1) | exact HB.out)) hb3); clear hb3))
    go_ret
    exact ⟨by first | rfl | simp, by repeat (first | (with_reducible first | exact HB3.out | apply below_alloc | apply pw_below_drewN | apply below_drew1) | exact HB3.out)⟩
  · have b2 : decide ((l0.length : Int) ≤ 32) = false := decide_eq_false g1
    have b3 : decide (l0.length ≤ 32) = false := decide_eq_false (by omega)
    rw [b3, Bool.false_and]
    go_enter Try.func20, Try.ntmps20
    go_wp2_with (first | ((with_reducible refine gate_dst (N := 1) rfl ?_); refine box_event ?hg (N := 1) ?hd (cs := #[.slice A0 l0.length c0]) (t := 22) ?hr ?_; (case hd => rfl); (case hg => rfl); (case hr => first | (go_simp; done) | (go_simp; rfl)); intro gb hgb w2 hbox hb; have BK := Aside0.mk hbox; have HB := Aside0.mk hb; have hz1 : w2.cell? ⟨gb, 0, none⟩ = some (.slice A0 l0.length c0) := (blk_cell hbox 0).trans rfl; clear hbox hb hgb))
    go_ret
    exact ⟨by first | rfl | simp, by repeat (first | (with_reducible first | exact HB.out | apply below_alloc | apply pw_below_drewN | apply below_drew1) | exact HB.out)⟩

/-! ### field_Of: function 30 -/
def field_Of.f (a0 : Int) : Option (Int) := if (IntKind.u64.wrap ((Go.bits .and .u64 a0 2305843009213693951) + (a0 / 2305843009213693952))) ≥ 2305843009213693951 then (some (IntKind.u64.wrap ((IntKind.u64.wrap ((Go.bits .and .u64 a0 2305843009213693951) + (a0 / 2305843009213693952))) - 2305843009213693951))) else (some (IntKind.u64.wrap ((Go.bits .and .u64 a0 2305843009213693951) + (a0 / 2305843009213693952))))
set_option maxHeartbeats 8000000 in
set_option maxRecDepth 100000 in
theorem field_Of.calls (a0 : Int) (r : Int) (w : World) (h : field_Of.f a0 = some r) :
    Calls Try.prog 30 #[.int .u64 a0] w fun e w' => e = .returned (.int .u64 r) ∧ Drawn0 w w' := by
  have H : (if (IntKind.u64.wrap ((Go.bits .and .u64 a0 2305843009213693951) + (a0 / 2305843009213693952))) ≥ 2305843009213693951 then (some (IntKind.u64.wrap ((IntKind.u64.wrap ((Go.bits .and .u64 a0 2305843009213693951) + (a0 / 2305843009213693952))) - 2305843009213693951))) else (some (IntKind.u64.wrap ((Go.bits .and .u64 a0 2305843009213693951) + (a0 / 2305843009213693952))))) = some r := h
  clear h
  by_cases c2 : (IntKind.u64.wrap ((Go.bits .and .u64 a0 2305843009213693951) + (a0 / 2305843009213693952))) ≥ 2305843009213693951
  · rw [if_pos c2] at H
    have c2b0 : decide (2305843009213693951 ≤ (IntKind.u64.wrap ((Go.bits .and .u64 a0 2305843009213693951) + (a0 / 2305843009213693952)))) = true := decide_eq_true c2
    clear c2
    obtain rfl := Option.some.inj H
    go_enter Try.func30, Try.ntmps30
    go_wp2
    go_ret
    exact ⟨by first | rfl | (simp; done) | (simp [*]; done), by repeat (first | exact Drawn0.refl _ | apply Drawn0.step)⟩
  · rw [if_neg c2] at H
    have c2b0 : decide (2305843009213693951 ≤ (IntKind.u64.wrap ((Go.bits .and .u64 a0 2305843009213693951) + (a0 / 2305843009213693952)))) = false := decide_eq_false c2
    clear c2
    obtain rfl := Option.some.inj H
    go_enter Try.func30, Try.ntmps30
    go_wp2
    go_ret
    exact ⟨by first | rfl | (simp; done) | (simp [*]; done), by repeat (first | exact Drawn0.refl _ | apply Drawn0.step)⟩

/-! ### bits_Mul64: function 35 -/
def bits_Mul64.f (a0 : Int) (a1 : Int) : Option (Int × Int) := some (IntKind.u64.wrap ((IntKind.u64.wrap ((IntKind.u64.wrap ((a0 / 4294967296) * (a1 / 4294967296))) + ((IntKind.u64.wrap ((IntKind.u64.wrap ((a0 / 4294967296) * (Go.bits .and .u64 a1 4294967295))) + ((IntKind.u64.wrap ((Go.bits .and .u64 a0 4294967295) * (Go.bits .and .u64 a1 4294967295))) / 4294967296))) / 4294967296))) + ((IntKind.u64.wrap ((Go.bits .and .u64 (IntKind.u64.wrap ((IntKind.u64.wrap ((a0 / 4294967296) * (Go.bits .and .u64 a1 4294967295))) + ((IntKind.u64.wrap ((Go.bits .and .u64 a0 4294967295) * (Go.bits .and .u64 a1 4294967295))) / 4294967296))) 4294967295) + (IntKind.u64.wrap ((Go.bits .and .u64 a0 4294967295) * (a1 / 4294967296))))) / 4294967296)), IntKind.u64.wrap (a0 * a1))
set_option maxHeartbeats 8000000 in
set_option maxRecDepth 100000 in
theorem bits_Mul64.calls (a0 : Int) (a1 : Int) (r1 : Int) (r2 : Int) (w : World) (h : bits_Mul64.f a0 a1 = some (r1, r2)) :
    Calls Try.prog 35 #[.int .u64 a0, .int .u64 a1] w fun e w' => e = .returned (.tuple #[.int .u64 r1, .int .u64 r2]) ∧ Drawn0 w w' := by
  have H : (some (IntKind.u64.wrap ((IntKind.u64.wrap ((IntKind.u64.wrap ((a0 / 4294967296) * (a1 / 4294967296))) + ((IntKind.u64.wrap ((IntKind.u64.wrap ((a0 / 4294967296) * (Go.bits .and .u64 a1 4294967295))) + ((IntKind.u64.wrap ((Go.bits .and .u64 a0 4294967295) * (Go.bits .and .u64 a1 4294967295))) / 4294967296))) / 4294967296))) + ((IntKind.u64.wrap ((Go.bits .and .u64 (IntKind.u64.wrap ((IntKind.u64.wrap ((a0 / 4294967296) * (Go.bits .and .u64 a1 4294967295))) + ((IntKind.u64.wrap ((Go.bits .and .u64 a0 4294967295) * (Go.bits .and .u64 a1 4294967295))) / 4294967296))) 4294967295) + (IntKind.u64.wrap ((Go.bits .and .u64 a0 4294967295) * (a1 / 4294967296))))) / 4294967296)), IntKind.u64.wrap (a0 * a1))) = some (r1, r2) := h
  clear h
  simp only [Option.some.injEq, Prod.mk.injEq] at H
  obtain ⟨rfl, rfl⟩ := H
  go_enter Try.func35, Try.ntmps35
  go_wp2
  go_ret2
  exact ⟨by first | rfl | (simp; done) | (simp [*]; done), by repeat (first | exact Drawn0.refl _ | apply Drawn0.step)⟩

/-! ### field_Mul: function 27 -/
def field_Mul.f (a0 : Int) (a1 : Int) : Option (Int) := (field_Of.f a0).bind fun t105 => ((field_Of.f a1).bind fun t106 => ((bits_Mul64.f t105 t106).bind fun bt107 => ((field_Of.f (IntKind.u64.wrap ((Go.bits .and .u64 bt107.2 2305843009213693951) + (Go.bits .or .u64 (bt107.2 / 2305843009213693952) (IntKind.u64.wrap (bt107.1 * 8)))))).bind fun t109 => (some t109))))
set_option maxHeartbeats 8000000 in
set_option maxRecDepth 100000 in
theorem field_Mul.calls (a0 : Int) (a1 : Int) (r : Int) (w : World) (h : field_Mul.f a0 a1 = some r) :
    Calls Try.prog 27 #[.int .u64 a0, .int .u64 a1] w fun e w' => e = .returned (.int .u64 r) ∧ Drawn0 w w' := by
  have H : ((field_Of.f a0).bind fun t105 => ((field_Of.f a1).bind fun t106 => ((bits_Mul64.f t105 t106).bind fun bt107 => ((field_Of.f (IntKind.u64.wrap ((Go.bits .and .u64 bt107.2 2305843009213693951) + (Go.bits .or .u64 (bt107.2 / 2305843009213693952) (IntKind.u64.wrap (bt107.1 * 8)))))).bind fun t109 => (some t109))))) = some r := h
  clear h
  replace H := Option.bind_eq_some_iff.mp H
  obtain ⟨t105, A30, H⟩ := H
  replace H : ((field_Of.f a1).bind fun t106 => ((bits_Mul64.f t105 t106).bind fun bt107 => ((field_Of.f (IntKind.u64.wrap ((Go.bits .and .u64 bt107.2 2305843009213693951) + (Go.bits .or .u64 (bt107.2 / 2305843009213693952) (IntKind.u64.wrap (bt107.1 * 8)))))).bind fun t109 => (some t109)))) = some r := H
  have A3 := Aside0.mk A30
  clear A30
  replace H := Option.bind_eq_some_iff.mp H
  obtain ⟨t106, A40, H⟩ := H
  replace H : ((bits_Mul64.f t105 t106).bind fun bt107 => ((field_Of.f (IntKind.u64.wrap ((Go.bits .and .u64 bt107.2 2305843009213693951) + (Go.bits .or .u64 (bt107.2 / 2305843009213693952) (IntKind.u64.wrap (bt107.1 * 8)))))).bind fun t109 => (some t109))) = some r := H
  have A4 := Aside0.mk A40
  clear A40
  replace H := Option.bind_eq_some_iff.mp H
  obtain ⟨⟨t107, t108⟩, A50, H⟩ := H
  replace H : ((field_Of.f (IntKind.u64.wrap ((Go.bits .and .u64 t108 2305843009213693951) + (Go.bits .or .u64 (t108 / 2305843009213693952) (IntKind.u64.wrap (t107 * 8)))))).bind fun t109 => (some t109)) = some r := H
  have A5 := Aside0.mk A50
  clear A50
  replace H := Option.bind_eq_some_iff.mp H
  obtain ⟨t109, A60, H⟩ := H
  replace H : (some t109) = some r := H
  have A6 := Aside0.mk A60
  clear A60
  obtain rfl := Option.some.inj H
  go_enter Try.func27, Try.ntmps27
  go_wp2_with (first | ((with_reducible refine gate_callee (f := 30) rfl ?_); refine goesL_ (some 9) rfl rfl Try.func30 (by kernel_rfl) rfl #[.int .u64 a0] rfl (by (try simp only [List.map_toArray, List.map_cons, List.map_nil]); first | done | rfl | (simp only [List.length_drop, List.length_take]; rfl)) ?_; (with_reducible refine (field_Of.calls a0 t105 _ A3.out).mono ?_); rintro e w' ⟨rfl, ⟨nd, rfl⟩⟩; refine ⟨_, rfl, ?_⟩) | ((with_reducible refine gate_callee (f := 30) rfl ?_); refine goesL_ (some 11) rfl rfl Try.func30 (by kernel_rfl) rfl #[.int .u64 a1] rfl (by (try simp only [List.map_toArray, List.map_cons, List.map_nil]); first | done | rfl | (simp only [List.length_drop, List.length_take]; rfl)) ?_; (with_reducible refine (field_Of.calls a1 t106 _ A4.out).mono ?_); rintro e w' ⟨rfl, ⟨nd, rfl⟩⟩; refine ⟨_, rfl, ?_⟩) | ((with_reducible refine gate_callee (f := 35) rfl ?_); refine goesL_ (some 12) rfl rfl Try.func35 (by kernel_rfl) rfl #[.int .u64 t105, .int .u64 t106] rfl (by (try simp only [List.map_toArray, List.map_cons, List.map_nil]); first | done | rfl | (simp only [List.length_drop, List.length_take]; rfl)) ?_; (with_reducible refine (bits_Mul64.calls t105 t106 t107 t108 _ A5.out).mono ?_); rintro e w' ⟨rfl, ⟨nd, rfl⟩⟩; refine ⟨_, rfl, ?_⟩) | ((with_reducible refine gate_callee (f := 30) rfl ?_); refine goesL_ (some 23) rfl rfl Try.func30 (by kernel_rfl) rfl #[.int .u64 (IntKind.u64.wrap ((Go.bits .and .u64 t108 2305843009213693951) + (Go.bits .or .u64 (t108 / 2305843009213693952) (IntKind.u64.wrap (t107 * 8)))))] rfl (by (try simp only [List.map_toArray, List.map_cons, List.map_nil]); first | done | rfl | (simp only [List.length_drop, List.length_take]; rfl)) ?_; (with_reducible refine (field_Of.calls (IntKind.u64.wrap ((Go.bits .and .u64 t108 2305843009213693951) + (Go.bits .or .u64 (t108 / 2305843009213693952) (IntKind.u64.wrap (t107 * 8))))) t109 _ A6.out).mono ?_); rintro e w' ⟨rfl, ⟨nd, rfl⟩⟩; refine ⟨_, rfl, ?_⟩))
  go_ret
  exact ⟨by first | rfl | (simp; done) | (simp [*]; done), by repeat (first | exact Drawn0.refl _ | apply Drawn0.step)⟩

end Go.Proofs.Ytoplnkbhgpamaaa.PSolveTurns
