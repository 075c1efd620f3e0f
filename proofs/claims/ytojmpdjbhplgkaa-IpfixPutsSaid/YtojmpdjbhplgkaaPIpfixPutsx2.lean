/- The functions that a law uses, each as a plain function, with the proof that a call of the Go function comes to its answer. Condition of each: the arguments read as the data that it names, and the plain function has an answer. Written by a program of this session (standin.py). -/
import Derived.Test.YtojmpdjbhplgkaaPIpfixPutsx0
import Derived.Test.YtojmpdjbhplgkaaShort
import Derived.Lib.SliceRun
import Derived.Test.YtojmpdjbhplgkaaBuilt
import Derived.Test.YtojmpdjbhplgkaaPressMore
namespace Go.Proofs.Ytojmpdjbhplgkaa.PIpfixPuts
open Go.RowKit Go.Proofs.YtojmpdjbhplgkaaW.PrintWords Go.Proofs.YtojmpdjbhplgkaaW.PrintLast Go.Proofs.YtojmpdjbhplgkaaW.PrintMore Go.Proofs.Ytojmpdjbhplgkaa.Short Go.Proofs.Ytojmpdjbhplgkaa.Press Go.Proofs.Ytojmpdjbhplgkaa.PressMore
attribute [local go_sem] max2_int min2_int max_two min_two max_three min_three max_four min_four   -- for this text's walks alone
set_option linter.unusedVariables false
set_option linter.unusedSimpArgs false

/-! ### ipfix_within: function 40 -/
def ipfix_within.f (a0 : Int) (a1 : Int) (a2 : Int) : Option (Bool) := if a0 ≥ a1 then (some (decide (a0 < a2))) else (some false)
set_option maxHeartbeats 80000000 in
set_option maxRecDepth 100000 in
theorem ipfix_within.calls (a0 : Int) (a1 : Int) (a2 : Int) (r : Bool) (w : World) (h : ipfix_within.f a0 a1 a2 = some r) :
    Calls Try.prog 40 #[.int .i64 a0, .int .i64 a1, .int .i64 a2] w fun e w' => e = .returned (.bool r) ∧ Drawn0 w w' := by
 have H : (if a0 ≥ a1 then (some (decide (a0 < a2))) else (some false)) = some r := h; clear h
 by_cases c4 : a0 ≥ a1
 ·rw [if_pos c4] at H; have aA : decide (a1 ≤ a0) = true := decide_eq_true c4; clear c4; obtain rfl := Option.some.inj H
  go_enter Try.func40, Try.ntmps40
  go_wp2
  go_ret; exact ⟨by first | rfl | (simp; done) | (simp [*]; done), by repeat (first | exact Drawn0.refl _ | apply Drawn0.step)⟩
 ·rw [if_neg c4] at H; have aA : decide (a1 ≤ a0) = false := decide_eq_false c4; clear c4; obtain rfl := Option.some.inj H
  go_enter Try.func40, Try.ntmps40
  go_wp2
  go_ret; exact ⟨by first | rfl | (simp; done) | (simp [*]; done), by repeat (first | exact Drawn0.refl _ | apply Drawn0.step)⟩

/-! ### ipfix_wrong: function 49 -/
def ipfix_wrong.f (a0_0 : Int) (a0_1 : Int) (a0_2 : Int) : Option (Bool) := (ipfix_within.f a0_0 0 32768).bind fun t102 => (if t102 = true then ((ipfix_within.f a0_1 0 65536).bind fun t103 => (if t103 = true then ((ipfix_within.f a0_2 0 4294967296).bind fun t104 => (some (!t104))) else (some true))) else (some true))
set_option maxHeartbeats 80000000 in
set_option maxRecDepth 100000 in
theorem ipfix_wrong.calls (a0_0 : Int) (a0_1 : Int) (a0_2 : Int) (r : Bool) (w : World) (h : ipfix_wrong.f a0_0 a0_1 a0_2 = some r) :
    Calls Try.prog 49 #[.agg #[.int .i64 a0_0, .int .i64 a0_1, .int .i64 a0_2]] w fun e w' => e = .returned (.bool r) ∧ Below w.heap.size w w' := by
 have hu82 := Try.underlying82; have HB := mk_ (Below.refl w.heap.size w); have H : ((ipfix_within.f a0_0 0 32768).bind fun aE => (if aE = true then ((ipfix_within.f a0_1 0 65536).bind fun aD => (if aD = true then ((ipfix_within.f a0_2 0 4294967296).bind fun aB => (some (!aB))) else (some true))) else (some true))) = some r := h; clear h; replace H := Option.bind_eq_some_iff.mp H; obtain ⟨aE, aG, H⟩ := H; replace H : (if aE = true then ((ipfix_within.f a0_1 0 65536).bind fun aD => (if aD = true then ((ipfix_within.f a0_2 0 4294967296).bind fun aB => (some (!aB))) else (some true))) else (some true)) = some r := H; have A2 := mk_ aG; clear aG
 by_cases c3 : aE = true
 ·subst c3
  have H1 : ((ipfix_within.f a0_1 0 65536).bind fun aD => (if aD = true then ((ipfix_within.f a0_2 0 4294967296).bind fun aB => (some (!aB))) else (some true))) = some r := by rw [if_pos rfl] at H; exact H
  clear H; have H := H1; clear H1; replace H := Option.bind_eq_some_iff.mp H; obtain ⟨aD, aH, H⟩ := H; replace H : (if aD = true then ((ipfix_within.f a0_2 0 4294967296).bind fun aB => (some (!aB))) else (some true)) = some r := H; have A4 := mk_ aH; clear aH
  by_cases c5 : aD = true
  ·subst c5
   have H1 : ((ipfix_within.f a0_2 0 4294967296).bind fun aB => (some (!aB))) = some r := by rw [if_pos rfl] at H; exact H
   clear H; have H := H1; clear H1; replace H := Option.bind_eq_some_iff.mp H; obtain ⟨aB, aI, H⟩ := H; replace H : (some (!aB)) = some r := H; have A6 := mk_ aI; clear aI; obtain rfl := Option.some.inj H
   go_enter Try.func49, Try.ntmps49
   go_wp2_with (first | ((with_reducible refine gate_dst (N := 1) rfl ?_); refine box_event ?hg (N := 1) ?hd (cs := #[.int .i64 a0_0, .int .i64 a0_1, .int .i64 a0_2]) (t := 82) ?hr ?_; (case hd => rfl); (case hg => rfl); (case hr => first | (go_simp; done) | (go_simp; rfl)); intro aC hg w7 hbox hb; have n0_ := bs_ HB hb; have n1_ := mk_ (hbox); have n2_ := gx_ hg HB; have n3_ := gx_ hg HB; clear HB; have HB := n0_; have aA := n1_; have aJ := n2_; have aK := n3_; clear n0_ n1_ n2_ n3_; clear hb hbox hg; have aL : w7.cell? ⟨aC, 0, none⟩ = some (.int .i64 a0_0) := bc_ aA 0; have aM : w7.cell? ⟨aC, 1, none⟩ = some (.int .i64 a0_1) := bc_ aA 1; have aN : w7.cell? ⟨aC, 2, none⟩ = some (.int .i64 a0_2) := bc_ aA 2; have aO := blk_frozen aA.out 0; have aP := blk_frozen aA.out 1; have aQ := blk_frozen aA.out 2) | ((with_reducible refine gate_callee (f := 40) rfl ?_); refine goesL_ (some 5) rfl rfl Try.func40 (by kernel_rfl) rfl #[.int .i64 a0_0, .int .i64 0, .int .i64 32768] rfl (by (try simp only [List.map_toArray, List.map_cons, List.map_nil]); first | done | rfl | (simp only [List.length_drop, List.length_take]; rfl)) ?_; (with_reducible refine (ipfix_within.calls a0_0 0 32768 true _ A2.out).mono ?_); rintro e w' ⟨rfl, ⟨nd, rfl⟩⟩; refine ⟨_, rfl, ?_⟩) | (go_at_call 40; (with_reducible refine (ipfix_within.calls a0_1 0 65536 true _ A4.out).mono ?_); rintro e w' ⟨rfl, ⟨nd, rfl⟩⟩) | (go_at_call 40; (with_reducible refine (ipfix_within.calls a0_2 0 4294967296 aB _ A6.out).mono ?_); rintro e w' ⟨rfl, ⟨nd, rfl⟩⟩))
   go_ret; exact ⟨by first | rfl | (simp [errW_none, errW_some] <;> rfl) | (simp [*, errW_none, errW_some] <;> rfl), bl_ HB⟩
  ·replace c5 := Bool.eq_false_iff.mpr c5; subst c5
   have H1 : (some true) = some r := by rw [if_neg (show ¬ (false = true) by decide)] at H; exact H
   clear H; have H := H1; clear H1; obtain rfl := Option.some.inj H
   go_enter Try.func49, Try.ntmps49
   go_wp2_with (first | ((with_reducible refine gate_dst (N := 1) rfl ?_); refine box_event ?hg (N := 1) ?hd (cs := #[.int .i64 a0_0, .int .i64 a0_1, .int .i64 a0_2]) (t := 82) ?hr ?_; (case hd => rfl); (case hg => rfl); (case hr => first | (go_simp; done) | (go_simp; rfl)); intro aC hg w9 hbox hb; have n0_ := bs_ HB hb; have n1_ := mk_ (hbox); have n2_ := gx_ hg HB; have n3_ := gx_ hg HB; clear HB; have HB := n0_; have aA := n1_; have aJ := n2_; have aK := n3_; clear n0_ n1_ n2_ n3_; clear hb hbox hg; have aR : w9.cell? ⟨aC, 0, none⟩ = some (.int .i64 a0_0) := bc_ aA 0; have aS : w9.cell? ⟨aC, 1, none⟩ = some (.int .i64 a0_1) := bc_ aA 1; have aT : w9.cell? ⟨aC, 2, none⟩ = some (.int .i64 a0_2) := bc_ aA 2; have aU := blk_frozen aA.out 0; have aV := blk_frozen aA.out 1; have aW := blk_frozen aA.out 2) | ((with_reducible refine gate_callee (f := 40) rfl ?_); refine goesL_ (some 5) rfl rfl Try.func40 (by kernel_rfl) rfl #[.int .i64 a0_0, .int .i64 0, .int .i64 32768] rfl (by (try simp only [List.map_toArray, List.map_cons, List.map_nil]); first | done | rfl | (simp only [List.length_drop, List.length_take]; rfl)) ?_; (with_reducible refine (ipfix_within.calls a0_0 0 32768 true _ A2.out).mono ?_); rintro e w' ⟨rfl, ⟨nd, rfl⟩⟩; refine ⟨_, rfl, ?_⟩) | (go_at_call 40; (with_reducible refine (ipfix_within.calls a0_1 0 65536 false _ A4.out).mono ?_); rintro e w' ⟨rfl, ⟨nd, rfl⟩⟩))
   go_ret; exact ⟨by first | rfl | (simp [errW_none, errW_some] <;> rfl) | (simp [*, errW_none, errW_some] <;> rfl), bl_ HB⟩
 ·replace c3 := Bool.eq_false_iff.mpr c3; subst c3
  have H1 : (some true) = some r := by rw [if_neg (show ¬ (false = true) by decide)] at H; exact H
  clear H; have H := H1; clear H1; obtain rfl := Option.some.inj H
  go_enter Try.func49, Try.ntmps49
  go_wp2_with (first | ((with_reducible refine gate_dst (N := 1) rfl ?_); refine box_event ?hg (N := 1) ?hd (cs := #[.int .i64 a0_0, .int .i64 a0_1, .int .i64 a0_2]) (t := 82) ?hr ?_; (case hd => rfl); (case hg => rfl); (case hr => first | (go_simp; done) | (go_simp; rfl)); intro aC hg aF hbox hb; have n0_ := bs_ HB hb; have n1_ := mk_ (hbox); have n2_ := gx_ hg HB; have n3_ := gx_ hg HB; clear HB; have HB := n0_; have aA := n1_; have aJ := n2_; have aK := n3_; clear n0_ n1_ n2_ n3_; clear hb hbox hg; have aX : aF.cell? ⟨aC, 0, none⟩ = some (.int .i64 a0_0) := bc_ aA 0; have aY : aF.cell? ⟨aC, 1, none⟩ = some (.int .i64 a0_1) := bc_ aA 1; have aZ : aF.cell? ⟨aC, 2, none⟩ = some (.int .i64 a0_2) := bc_ aA 2; have bA := blk_frozen aA.out 0; have bB := blk_frozen aA.out 1; have bC := blk_frozen aA.out 2) | ((with_reducible refine gate_callee (f := 40) rfl ?_); refine goesL_ (some 5) rfl rfl Try.func40 (by kernel_rfl) rfl #[.int .i64 a0_0, .int .i64 0, .int .i64 32768] rfl (by (try simp only [List.map_toArray, List.map_cons, List.map_nil]); first | done | rfl | (simp only [List.length_drop, List.length_take]; rfl)) ?_; (with_reducible refine (ipfix_within.calls a0_0 0 32768 false _ A2.out).mono ?_); rintro e w' ⟨rfl, ⟨nd, rfl⟩⟩; refine ⟨_, rfl, ?_⟩))
  go_ret; exact ⟨by first | rfl | (simp [errW_none, errW_some] <;> rfl) | (simp [*, errW_none, errW_some] <;> rfl), bl_ HB⟩

-- NOT PRINTED: function 58 (ipfix_Field_58)

/-! ### ipfix_Field_48: function 48 -/
def ipfix_Field_48.g (y : S82) : Option Bool := ipfix_wrong.f y.f0 y.f1 y.f2
def ipfix_Field_48.any (l : List S82) : Option Bool := l.foldr (fun y r => (ipfix_Field_48.g y).bind fun b => if b = true then some true else r) (some false)
def ipfix_Field_48.f (l0 : List S82) : Option Bool := if l0.length ≤ 9223372036854775807 then ipfix_Field_48.any l0 else none

set_option maxHeartbeats 80000000 in
set_option maxRecDepth 100000 in
theorem ipfix_Field_48.lit (y : S82) (b : Bool) (w : World) (h : ipfix_Field_48.g y = some b) : Calls Try.prog 49 #[.agg #[.int .i64 y.f0, .int .i64 y.f1, .int .i64 y.f2]] w fun e w' => e = .returned (.bool b) ∧ Below w.heap.size w w' := by
  exact ipfix_wrong.calls y.f0 y.f1 y.f2 b w h

theorem ipfix_Field_48.drop_cons (l : List S82) (k : Nat) (h : k < l.length) : l.drop k = rd_T82 l (k : Int) :: l.drop (k + 1) := by
  rw [List.drop_eq_getElem_cons h]
  simp [rd_T82, List.getD_eq_getElem?_getD, h]

def ipfix_Field_48.Tells (r : Bool) (w : World) (e : Ending) (w' : World) : Prop := ∃ n : Int, e = .returned (.int .i64 n) ∧ decide (n ≥ 0) = r ∧ Below w.heap.size w w'

set_option maxHeartbeats 80000000 in
set_option maxRecDepth 100000 in
theorem ipfix_Field_48.index (A : Option Addr) (c : Nat) (l : List S82) (r : Bool) (w : World) (hr : Kd.C k82 w A l.length l) (hlen : l.length ≤ 9223372036854775807) (h : ipfix_Field_48.any l = some r) :
    Calls Try.prog 58 #[.slice A l.length c, .func (.func 49) #[] #[]] w (ipfix_Field_48.Tells r w) := by
  have HR := mk_ hr
  have H0 := mk_ h
  clear hr h
  have hu_ := Try.underlying82
  have e_ : ∀ (args : Array Value) (w : World), (callFunc 49 args).run Try.prog w = .ok (.enter 49 args) w := fun args w => enters_ Try.func49 (by kernel_rfl) rfl args w
  go_enter Try.func58, Try.ntmps58
  go_wp2
  go_loopg [5, 8] l.length (fun gg _ s8 wr => ∃ kk : Nat, kk ≤ l.length ∧ l.length - kk ≤ gg ∧ s8 = .int .i64 kk ∧ Aside0 (Below w.heap.size w wr) ∧ Aside0 (ipfix_Field_48.any (l.drop kk) = some r))
  case atStart => exact ⟨0, Nat.zero_le _, by omega, rfl, ⟨Below.refl _ w⟩, ⟨by rw [List.drop_zero]; exact H0.out⟩⟩
  case round =>
    obtain ⟨kk, hkk, hg, rfl, BW, HA⟩ := hrel
    by_cases hlt : kk < l.length
    · have h2 := HA.out
      rw [ipfix_Field_48.drop_cons l kk hlt, ipfix_Field_48.any, List.foldr_cons, ← ipfix_Field_48.any] at h2
      obtain ⟨b, hb, h2⟩ := Option.bind_eq_some_iff.mp h2
      have hltz : (kk : Int) < (l.length : Int) := by omega
      have hk0 : (0 : Int) ≤ (kk : Int) := by omega
      obtain ⟨ad, e, hx0, hx1, hx2⟩ := at_T82 HR.out (kk : Int) hk0 hltz
      cases e
      have hx0' := (BW.out.cell (World.block_lt_of_cell? w _ hx0)).trans hx0
      have hx1' := (BW.out.cell (World.block_lt_of_cell? w _ hx1)).trans hx1
      have hx2' := (BW.out.cell (World.block_lt_of_cell? w _ hx2)).trans hx2
      clear hx0 hx1 hx2
      simp only [Int.toNat_natCast] at hx0' hx1' hx2'
      have hcall := ipfix_Field_48.lit (rd_T82 l (kk : Int)) b wr hb
      clear hb
      generalize rd_T82 l (kk : Int) = y at *
      cases b with
      | true =>
        rw [if_pos rfl] at h2
        obtain rfl := Option.some.inj h2
        clear h2
        go_wp2_with (go_at_fn 49; refine hcall.mono ?_; rintro e w' ⟨rfl, hb'⟩)
        go_ret
        exact ⟨(kk : Int), rfl, decide_eq_true (by omega), BW.out.trans (hb'.mono BW.out.size)⟩
      | false =>
        rw [if_neg (by decide)] at h2
        have H2 := mk_ h2
        clear h2
        go_wp2_with (go_at_fn 49; refine hcall.mono ?_; rintro e w' ⟨rfl, hb'⟩)
        go_roundg (l.length - (kk + 1))
        case measure => omega
        case rel => exact ⟨kk + 1, by omega, by omega, by go_num, ⟨BW.out.trans (hb'.mono BW.out.size)⟩, H2⟩
    · have hltz : ¬ (kk : Int) < (l.length : Int) := by omega
      have : kk = l.length := by omega
      subst this
      have h2 := HA.out
      rw [List.drop_length, ipfix_Field_48.any, List.foldr_nil] at h2
      obtain rfl := Option.some.inj h2
      clear h2
      go_wp2
      go_ret
      exact ⟨-1, rfl, by decide, BW.out⟩

set_option maxHeartbeats 80000000 in
set_option maxRecDepth 100000 in
theorem ipfix_Field_48.calls (A0 : Option Addr) (c0 : Nat) (l0 : List (S82)) (r : Bool) (w : World) (hr0 : Kd.C k82 w A0 l0.length l0) (hc0 : l0.length ≤ c0) (h : ipfix_Field_48.f l0 = some r) :
    Calls Try.prog 48 #[.slice A0 l0.length c0, .func (.func 49) #[] #[]] w fun e w' => e = .returned (.bool r) ∧ Below w.heap.size w w' := by
 unfold ipfix_Field_48.f at h
 split at h
 ·rename_i hlen
  have hcall := ipfix_Field_48.index A0 c0 l0 r w hr0 hlen h; clear hr0 h
  have e_ : ∀ (args : Array Value) (w : World), (callFunc 58 args).run Try.prog w = .ok (.enter 58 args) w := fun args w => enters_ Try.func58 (by kernel_rfl) rfl args w
  go_enter Try.func48, Try.ntmps48
  go_wp2_with (go_at_fn 58; refine hcall.mono ?_; rintro e w' ⟨n, rfl, hn, hb⟩; have HN := mk_ hn; clear hn)
  go_ret; rw [HN.out]
  exact ⟨rfl, hb⟩
 ·cases h

/-! ### ipfix_Template_right: function 34 -/
def ipfix_Template_right.f (a0_0 : Int) (l0_1 : List (S82)) : Option (Bool) := (ipfix_within.f a0_0 256 65536).bind fun t109 => (if t109 = true then ((ipfix_within.f (l0_1.length : Int) 1 65).bind fun t110 => (if t110 = true then ((ipfix_Field_48.f l0_1).bind fun t111 => (some (!t111))) else (some false))) else (some false))
set_option maxHeartbeats 80000000 in
set_option maxRecDepth 100000 in
theorem ipfix_Template_right.calls (a0_0 : Int) (A0_1 : Option Addr) (c0_1 : Nat) (l0_1 : List (S82)) (r : Bool) (w : World) (hr0_1 : Kd.C k82 w A0_1 l0_1.length l0_1) (hc0_1 : l0_1.length ≤ c0_1) (h : ipfix_Template_right.f a0_0 l0_1 = some r) :
    Calls Try.prog 34 #[.agg #[.int .i64 a0_0, .slice A0_1 l0_1.length c0_1]] w fun e w' => e = .returned (.bool r) ∧ Below w.heap.size w w' := by
 have hu37 := Try.underlying37; have aM := mk_ hr0_1; have aN := mk_ hc0_1; clear hr0_1 hc0_1; have HB := mk_ (Below.refl w.heap.size w); have H : ((ipfix_within.f a0_0 256 65536).bind fun aE => (if aE = true then ((ipfix_within.f (l0_1.length : Int) 1 65).bind fun aC => (if aC = true then ((ipfix_Field_48.f l0_1).bind fun aB => (some (!aB))) else (some false))) else (some false))) = some r := h; clear h; replace H := Option.bind_eq_some_iff.mp H; obtain ⟨aE, aF, H⟩ := H; replace H : (if aE = true then ((ipfix_within.f (l0_1.length : Int) 1 65).bind fun aC => (if aC = true then ((ipfix_Field_48.f l0_1).bind fun aB => (some (!aB))) else (some false))) else (some false)) = some r := H; have A2 := mk_ aF; clear aF
 by_cases c3 : aE = true
 ·subst c3
  have H1 : ((ipfix_within.f (l0_1.length : Int) 1 65).bind fun aC => (if aC = true then ((ipfix_Field_48.f l0_1).bind fun aB => (some (!aB))) else (some false))) = some r := by rw [if_pos rfl] at H; exact H
  clear H; have H := H1; clear H1; replace H := Option.bind_eq_some_iff.mp H; obtain ⟨aC, aG, H⟩ := H; replace H : (if aC = true then ((ipfix_Field_48.f l0_1).bind fun aB => (some (!aB))) else (some false)) = some r := H; have A4 := mk_ aG; clear aG
  by_cases c5 : aC = true
  ·subst c5
   have H1 : ((ipfix_Field_48.f l0_1).bind fun aB => (some (!aB))) = some r := by rw [if_pos rfl] at H; exact H
   clear H; have H := H1; clear H1; replace H := Option.bind_eq_some_iff.mp H; obtain ⟨aB, aH, H⟩ := H; replace H : (some (!aB)) = some r := H; have A6 := mk_ aH; clear aH; obtain rfl := Option.some.inj H
   go_enter Try.func34, Try.ntmps34
   go_wp2_with (first | ((with_reducible refine gate_dst (N := 1) rfl ?_); (try (refine gate_guard (by rfl) ?_; dsimp only)); refine box_event ?hg (N := 1) ?hd (cs := #[.int .i64 a0_0, .slice A0_1 l0_1.length c0_1]) (t := 37) ?hr ?_; (case hd => rfl); (case hg => rfl); (case hr => first | (go_simp; done) | (go_simp; rfl)); intro aD hg w7 hbox hb; have n0_ := bs_ HB hb; have n1_ := mk_ (hbox); have n2_ := gx_ hg HB; have n3_ := gx_ hg HB; clear HB; have HB := n0_; have aA := n1_; have aI := n2_; have aJ := n3_; clear n0_ n1_ n2_ n3_; clear hb hbox hg; have aO : w7.cell? ⟨aD, 0, none⟩ = some (.int .i64 a0_0) := bc_ aA 0; have aP : w7.cell? ⟨aD, 1, none⟩ = some (.slice A0_1 l0_1.length c0_1) := bc_ aA 1; have aQ := blk_frozen aA.out 0; have aR := blk_frozen aA.out 1) | ((with_reducible refine gate_callee (f := 40) rfl ?_); refine goesL_ (some 5) rfl rfl Try.func40 (by kernel_rfl) rfl #[.int .i64 a0_0, .int .i64 256, .int .i64 65536] rfl (by (try simp only [List.map_toArray, List.map_cons, List.map_nil]); first | done | rfl | (simp only [List.length_drop, List.length_take]; rfl)) ?_; (with_reducible refine (ipfix_within.calls a0_0 256 65536 true _ A2.out).mono ?_); rintro e w' ⟨rfl, ⟨nd, rfl⟩⟩; refine ⟨_, rfl, ?_⟩) | (go_at_call 40; (with_reducible refine (ipfix_within.calls (l0_1.length : Int) 1 65 true _ A4.out).mono ?_); rintro e w' ⟨rfl, ⟨nd, rfl⟩⟩) | (go_at_call 48; (with_reducible refine (ipfix_Field_48.calls _ _ l0_1 aB _ ?side1 ?side2 A6.out).mono ?_); (case side1 => repeat (first | exact (Kd.C_below aM.out (bl_ HB)) | (with_reducible refine Kd.C_alloc ?_ _) | (with_reducible refine Kd.C_drewN ?_ _) | (with_reducible refine Kd.C_drew ?_))); (case side2 => exact aN.out); rintro e w9 ⟨rfl, hb⟩; have n0_ := bb_ aA hb; have n1_ := bs_ HB hb; clear aA; clear HB; have aA := n0_; have HB := n1_; clear n0_ n1_; (try clear hb); (try clear hb2); (try clear hk); (try clear hi)))
   go_ret; exact ⟨by first | rfl | (simp [errW_none, errW_some] <;> rfl) | (simp [*, errW_none, errW_some] <;> rfl), bl_ HB⟩
  ·replace c5 := Bool.eq_false_iff.mpr c5; subst c5
   have H1 : (some false) = some r := by rw [if_neg (show ¬ (false = true) by decide)] at H; exact H
   clear H; have H := H1; clear H1; obtain rfl := Option.some.inj H
   go_enter Try.func34, Try.ntmps34
   go_wp2_with (first | ((with_reducible refine gate_dst (N := 1) rfl ?_); (try (refine gate_guard (by rfl) ?_; dsimp only)); refine box_event ?hg (N := 1) ?hd (cs := #[.int .i64 a0_0, .slice A0_1 l0_1.length c0_1]) (t := 37) ?hr ?_; (case hd => rfl); (case hg => rfl); (case hr => first | (go_simp; done) | (go_simp; rfl)); intro aD hg aK hbox hb; have n0_ := bs_ HB hb; have n1_ := mk_ (hbox); have n2_ := gx_ hg HB; have n3_ := gx_ hg HB; clear HB; have HB := n0_; have aA := n1_; have aI := n2_; have aJ := n3_; clear n0_ n1_ n2_ n3_; clear hb hbox hg; have aS : aK.cell? ⟨aD, 0, none⟩ = some (.int .i64 a0_0) := bc_ aA 0; have aT : aK.cell? ⟨aD, 1, none⟩ = some (.slice A0_1 l0_1.length c0_1) := bc_ aA 1; have aU := blk_frozen aA.out 0; have aV := blk_frozen aA.out 1) | ((with_reducible refine gate_callee (f := 40) rfl ?_); refine goesL_ (some 5) rfl rfl Try.func40 (by kernel_rfl) rfl #[.int .i64 a0_0, .int .i64 256, .int .i64 65536] rfl (by (try simp only [List.map_toArray, List.map_cons, List.map_nil]); first | done | rfl | (simp only [List.length_drop, List.length_take]; rfl)) ?_; (with_reducible refine (ipfix_within.calls a0_0 256 65536 true _ A2.out).mono ?_); rintro e w' ⟨rfl, ⟨nd, rfl⟩⟩; refine ⟨_, rfl, ?_⟩) | (go_at_call 40; (with_reducible refine (ipfix_within.calls (l0_1.length : Int) 1 65 false _ A4.out).mono ?_); rintro e w' ⟨rfl, ⟨nd, rfl⟩⟩))
   go_ret; exact ⟨by first | rfl | (simp [errW_none, errW_some] <;> rfl) | (simp [*, errW_none, errW_some] <;> rfl), bl_ HB⟩
 ·replace c3 := Bool.eq_false_iff.mpr c3; subst c3
  have H1 : (some false) = some r := by rw [if_neg (show ¬ (false = true) by decide)] at H; exact H
  clear H; have H := H1; clear H1; obtain rfl := Option.some.inj H
  go_enter Try.func34, Try.ntmps34
  go_wp2_with (first | ((with_reducible refine gate_dst (N := 1) rfl ?_); (try (refine gate_guard (by rfl) ?_; dsimp only)); refine box_event ?hg (N := 1) ?hd (cs := #[.int .i64 a0_0, .slice A0_1 l0_1.length c0_1]) (t := 37) ?hr ?_; (case hd => rfl); (case hg => rfl); (case hr => first | (go_simp; done) | (go_simp; rfl)); intro aD hg aL hbox hb; have n0_ := bs_ HB hb; have n1_ := mk_ (hbox); have n2_ := gx_ hg HB; have n3_ := gx_ hg HB; clear HB; have HB := n0_; have aA := n1_; have aI := n2_; have aJ := n3_; clear n0_ n1_ n2_ n3_; clear hb hbox hg; have aW : aL.cell? ⟨aD, 0, none⟩ = some (.int .i64 a0_0) := bc_ aA 0; have aX : aL.cell? ⟨aD, 1, none⟩ = some (.slice A0_1 l0_1.length c0_1) := bc_ aA 1; have aY := blk_frozen aA.out 0; have aZ := blk_frozen aA.out 1) | ((with_reducible refine gate_callee (f := 40) rfl ?_); refine goesL_ (some 5) rfl rfl Try.func40 (by kernel_rfl) rfl #[.int .i64 a0_0, .int .i64 256, .int .i64 65536] rfl (by (try simp only [List.map_toArray, List.map_cons, List.map_nil]); first | done | rfl | (simp only [List.length_drop, List.length_take]; rfl)) ?_; (with_reducible refine (ipfix_within.calls a0_0 256 65536 false _ A2.out).mono ?_); rintro e w' ⟨rfl, ⟨nd, rfl⟩⟩; refine ⟨_, rfl, ?_⟩))
  go_ret; exact ⟨by first | rfl | (simp [errW_none, errW_some] <;> rfl) | (simp [*, errW_none, errW_some] <;> rfl), bl_ HB⟩

-- NOT PRINTED: function 56 (ipfix_Set_right_1)

-- NOT PRINTED: function 60 (ipfix_Template_60)

/-! ### ipfix_Template_55: function 55 -/
def ipfix_Template_55.g (y : S37) : Option Bool := (ipfix_Template_right.f y.f0 y.f1).bind fun t => some (!t)
def ipfix_Template_55.any (l : List S37) : Option Bool := l.foldr (fun y r => (ipfix_Template_55.g y).bind fun b => if b = true then some true else r) (some false)
def ipfix_Template_55.f (l0 : List S37) : Option Bool := if l0.length ≤ 9223372036854775807 then ipfix_Template_55.any l0 else none

set_option maxHeartbeats 80000000 in
set_option maxRecDepth 100000 in
theorem ipfix_Template_55.lit (y : S37) (A1 : Option Addr) (c1 : Nat) (b : Bool) (w : World) (hr : Kd.C k82 w A1 y.f1.length y.f1) (hc : y.f1.length ≤ c1) (h : ipfix_Template_55.g y = some b) : Calls Try.prog 56 #[.agg #[.int .i64 y.f0, .slice A1 y.f1.length c1]] w fun e w' => e = .returned (.bool b) ∧ Below w.heap.size w w' := by
  unfold ipfix_Template_55.g at h
  obtain ⟨t, ht, h⟩ := Option.bind_eq_some_iff.mp h
  obtain rfl := Option.some.inj h
  have hu_ := Try.underlying37
  have HR := Aside0.mk hr
  have HC := Aside0.mk hc
  have HT := Aside0.mk ht
  have HB := Aside0.mk (Below.refl w.heap.size w)
  clear h hr hc ht
  go_enter Try.func56, Try.ntmps56
  go_wp2_with (first | ((with_reducible refine gate_dst (N := 1) rfl ?_); refine box_event ?hg (N := 1) ?hd (cs := #[.int .i64 y.f0, .slice A1 y.f1.length c1]) (t := 37) ?hr ?_; (case hd => rfl); (case hg => rfl); (case hr => first | (go_simp; done) | (go_simp; rfl)); intro gb hg w2 hbox hb; have n0_ := Aside0.mk (below_step (bl_ HB) hb); have BK := Aside0.mk hbox; clear HB; have HB := n0_; clear n0_; clear hb hbox hg; have hcz_0 : w2.cell? ⟨gb, 0, none⟩ = some (.int .i64 y.f0) := (blk_cell BK.out 0).trans rfl; have hfz_0 := blk_frozen BK.out 0; have hcz_1 : w2.cell? ⟨gb, 1, none⟩ = some (.slice A1 y.f1.length c1) := (blk_cell BK.out 1).trans rfl; have hfz_1 := blk_frozen BK.out 1) | ((with_reducible refine gate_callee (f := 34) rfl ?_); refine goesL_ (some 4) rfl rfl Try.func34 (by kernel_rfl) rfl #[.agg #[.int .i64 y.f0, .slice A1 y.f1.length c1]] rfl (by (try simp only [List.map_toArray, List.map_cons, List.map_nil]); first | done | rfl | (simp only [List.length_drop, List.length_take]; rfl)) ?_; (with_reducible refine (ipfix_Template_right.calls y.f0 A1 c1 y.f1 t _ ?side1 ?side2 HT.out).mono ?_); (case side1 => repeat (first | exact (Kd.C_below HR.out HB.out) | (with_reducible refine Kd.C_alloc ?_ _) | (with_reducible refine Kd.C_drewN ?_ _) | (with_reducible refine Kd.C_drew ?_))); (case side2 => exact HC.out); rintro e w3 ⟨rfl, hb⟩; refine ⟨_, rfl, ?_⟩; have n0_ := Aside0.mk (below_step (bl_ HB) hb); clear HB; have HB := n0_; clear n0_; clear hb))
  go_ret
  exact ⟨by first | rfl | (simp; done) | (simp [*]; done), (bl_ HB)⟩

theorem ipfix_Template_55.drop_cons (l : List S37) (k : Nat) (h : k < l.length) : l.drop k = rd_T37 l (k : Int) :: l.drop (k + 1) := by
  rw [List.drop_eq_getElem_cons h]
  simp [rd_T37, List.getD_eq_getElem?_getD, h]

def ipfix_Template_55.Tells (r : Bool) (w : World) (e : Ending) (w' : World) : Prop := ∃ n : Int, e = .returned (.int .i64 n) ∧ decide (n ≥ 0) = r ∧ Below w.heap.size w w'

set_option maxHeartbeats 80000000 in
set_option maxRecDepth 100000 in
theorem ipfix_Template_55.index (A : Option Addr) (c : Nat) (l : List S37) (r : Bool) (w : World) (hr : Kd.C k37 w A l.length l) (hlen : l.length ≤ 9223372036854775807) (h : ipfix_Template_55.any l = some r) :
    Calls Try.prog 60 #[.slice A l.length c, .func (.func 56) #[] #[]] w (ipfix_Template_55.Tells r w) := by
  have HR := mk_ hr
  have H0 := mk_ h
  clear hr h
  have hu_ := Try.underlying37
  have e_ : ∀ (args : Array Value) (w : World), (callFunc 56 args).run Try.prog w = .ok (.enter 56 args) w := fun args w => enters_ Try.func56 (by kernel_rfl) rfl args w
  go_enter Try.func60, Try.ntmps60
  go_wp2
  go_loopg [5, 8] l.length (fun gg _ s8 wr => ∃ kk : Nat, kk ≤ l.length ∧ l.length - kk ≤ gg ∧ s8 = .int .i64 kk ∧ Aside0 (Below w.heap.size w wr) ∧ Aside0 (ipfix_Template_55.any (l.drop kk) = some r))
  case atStart => exact ⟨0, Nat.zero_le _, by omega, rfl, ⟨Below.refl _ w⟩, ⟨by rw [List.drop_zero]; exact H0.out⟩⟩
  case round =>
    obtain ⟨kk, hkk, hg, rfl, BW, HA⟩ := hrel
    by_cases hlt : kk < l.length
    · have h2 := HA.out
      rw [ipfix_Template_55.drop_cons l kk hlt, ipfix_Template_55.any, List.foldr_cons, ← ipfix_Template_55.any] at h2
      obtain ⟨b, hb, h2⟩ := Option.bind_eq_some_iff.mp h2
      have hltz : (kk : Int) < (l.length : Int) := by omega
      have hk0 : (0 : Int) ≤ (kk : Int) := by omega
      obtain ⟨ad, A1, c1, e, hx0, hx1, hl1, hi1⟩ := at_T37 HR.out (kk : Int) hk0 hltz
      cases e
      have hx0' := (BW.out.cell (World.block_lt_of_cell? w _ hx0)).trans hx0
      have hx1' := (BW.out.cell (World.block_lt_of_cell? w _ hx1)).trans hx1
      clear hx0 hx1
      simp only [Int.toNat_natCast] at hx0' hx1'
      have hcall := ipfix_Template_55.lit (rd_T37 l (kk : Int)) A1 c1 b wr (Kd.C_below hi1 BW.out) hl1 hb
      clear hb
      generalize rd_T37 l (kk : Int) = y at *
      cases b with
      | true =>
        rw [if_pos rfl] at h2
        obtain rfl := Option.some.inj h2
        clear h2
        go_wp2_with (go_at_fn 56; refine hcall.mono ?_; rintro e w' ⟨rfl, hb'⟩)
        go_ret
        exact ⟨(kk : Int), rfl, decide_eq_true (by omega), BW.out.trans (hb'.mono BW.out.size)⟩
      | false =>
        rw [if_neg (by decide)] at h2
        have H2 := mk_ h2
        clear h2
        go_wp2_with (go_at_fn 56; refine hcall.mono ?_; rintro e w' ⟨rfl, hb'⟩)
        go_roundg (l.length - (kk + 1))
        case measure => omega
        case rel => exact ⟨kk + 1, by omega, by omega, by go_num, ⟨BW.out.trans (hb'.mono BW.out.size)⟩, H2⟩
    · have hltz : ¬ (kk : Int) < (l.length : Int) := by omega
      have : kk = l.length := by omega
      subst this
      have h2 := HA.out
      rw [List.drop_length, ipfix_Template_55.any, List.foldr_nil] at h2
      obtain rfl := Option.some.inj h2
      clear h2
      go_wp2
      go_ret
      exact ⟨-1, rfl, by decide, BW.out⟩

set_option maxHeartbeats 80000000 in
set_option maxRecDepth 100000 in
theorem ipfix_Template_55.calls (A0 : Option Addr) (c0 : Nat) (l0 : List (S37)) (r : Bool) (w : World) (hr0 : Kd.C k37 w A0 l0.length l0) (hc0 : l0.length ≤ c0) (h : ipfix_Template_55.f l0 = some r) :
    Calls Try.prog 55 #[.slice A0 l0.length c0, .func (.func 56) #[] #[]] w fun e w' => e = .returned (.bool r) ∧ Below w.heap.size w w' := by
 unfold ipfix_Template_55.f at h
 split at h
 ·rename_i hlen
  have hcall := ipfix_Template_55.index A0 c0 l0 r w hr0 hlen h; clear hr0 h
  have e_ : ∀ (args : Array Value) (w : World), (callFunc 60 args).run Try.prog w = .ok (.enter 60 args) w := fun args w => enters_ Try.func60 (by kernel_rfl) rfl args w
  go_enter Try.func55, Try.ntmps55
  go_wp2_with (go_at_fn 60; refine hcall.mono ?_; rintro e w' ⟨n, rfl, hn, hb⟩; have HN := mk_ hn; clear hn)
  go_ret; rw [HN.out]
  exact ⟨rfl, hb⟩
 ·cases h

/-! ### ipfix_Set_right: function 43 -/
def ipfix_Set_right.f (a0_0 : Int) (l0_1 : List (S37)) (a0_2 : ByteArray) : Option (Bool) := if a0_0 = 2 then (if a0_2.toList = ([] : List UInt8) then (if (l0_1.length : Int) > 0 then ((ipfix_Template_55.f l0_1).bind fun t116 => (some (!t116))) else (some false)) else (some false)) else ((ipfix_within.f a0_0 256 65536).bind fun t117 => (if t117 = true then (some ((l0_1.length : Int) == 0)) else (some false)))
set_option maxHeartbeats 80000000 in
set_option maxRecDepth 100000 in
theorem ipfix_Set_right.calls (a0_0 : Int) (A0_1 : Option Addr) (c0_1 : Nat) (l0_1 : List (S37)) (a0_2 : ByteArray) (r : Bool) (w : World) (hr0_1 : Kd.C k37 w A0_1 l0_1.length l0_1) (hc0_1 : l0_1.length ≤ c0_1) (h : ipfix_Set_right.f a0_0 l0_1 a0_2 = some r) :
    Calls Try.prog 43 #[.agg #[.int .i64 a0_0, .slice A0_1 l0_1.length c0_1, .string a0_2]] w fun e w' => e = .returned (.bool r) ∧ Below w.heap.size w w' := by
 have hu29 := Try.underlying29; have aN := mk_ hr0_1; have aO := mk_ hc0_1; clear hr0_1 hc0_1; have HB := mk_ (Below.refl w.heap.size w); have H : (if a0_0 = 2 then (if a0_2.toList = ([] : List UInt8) then (if (l0_1.length : Int) > 0 then ((ipfix_Template_55.f l0_1).bind fun aC => (some (!aC))) else (some false)) else (some false)) else ((ipfix_within.f a0_0 256 65536).bind fun aD => (if aD = true then (some ((l0_1.length : Int) == 0)) else (some false)))) = some r := h; clear h
 by_cases c2 : a0_0 = 2
 ·rw [if_pos c2] at H; have aP : (a0_0 == 2) = true := beq_iff_eq.mpr c2; have aQ : (a0_0 != 2) = false := bne_eq_false_iff_eq.mpr c2; clear c2
  by_cases c3 : a0_2.toList = ([] : List UInt8)
  ·rw [if_pos c3] at H; have aR : (a0_2.toList == ([] : List UInt8)) = true := beq_iff_eq.mpr c3; have aS : (a0_2.toList != ([] : List UInt8)) = false := bne_eq_false_iff_eq.mpr c3; clear c3
   by_cases c4 : (l0_1.length : Int) > 0
   ·rw [if_pos c4] at H; have aT : decide (0 < (l0_1.length : Int)) = true := decide_eq_true c4; have aU : decide (0 < l0_1.length) = true := decide_eq_true (by omega); clear c4; replace H := Option.bind_eq_some_iff.mp H; obtain ⟨aC, aK, H⟩ := H; replace H : (some (!aC)) = some r := H; have A5 := mk_ aK; clear aK; obtain rfl := Option.some.inj H
    go_enter Try.func43, Try.ntmps43
    go_wp2_with (first | ((with_reducible refine gate_dst (N := 1) rfl ?_); (try (refine gate_guard (by rfl) ?_; dsimp only)); refine box_event ?hg (N := 1) ?hd (cs := #[.int .i64 a0_0, .slice A0_1 l0_1.length c0_1, .string a0_2]) (t := 29) ?hr ?_; (case hd => rfl); (case hg => rfl); (case hr => first | (go_simp; done) | (go_simp; rfl)); intro aB hg w6 hbox hb; have n0_ := bs_ HB hb; have n1_ := mk_ (hbox); have n2_ := gx_ hg HB; have n3_ := gx_ hg HB; clear HB; have HB := n0_; have aA := n1_; have aE := n2_; have aF := n3_; clear n0_ n1_ n2_ n3_; clear hb hbox hg; have aV : w6.cell? ⟨aB, 0, none⟩ = some (.int .i64 a0_0) := bc_ aA 0; have aW : w6.cell? ⟨aB, 1, none⟩ = some (.slice A0_1 l0_1.length c0_1) := bc_ aA 1; have aX : w6.cell? ⟨aB, 2, none⟩ = some (.string a0_2) := bc_ aA 2; have aY := blk_frozen aA.out 0; have aZ := blk_frozen aA.out 1; have bA := blk_frozen aA.out 2) | (go_at_call 55; (with_reducible refine (ipfix_Template_55.calls _ _ l0_1 aC _ ?side1 ?side2 A5.out).mono ?_); (case side1 => repeat (first | exact (Kd.C_below aN.out HB.out) | (with_reducible refine Kd.C_alloc ?_ _) | (with_reducible refine Kd.C_drewN ?_ _) | (with_reducible refine Kd.C_drew ?_))); (case side2 => exact aO.out); rintro e w8 ⟨rfl, hb⟩; have n0_ := bb_ aA hb; have n1_ := bs_ HB hb; clear aA; clear HB; have aA := n0_; have HB := n1_; clear n0_ n1_; (try clear hb); (try clear hb2); (try clear hk); (try clear hi)))
    go_ret; exact ⟨by first | rfl | (simp [errW_none, errW_some] <;> rfl) | (simp [*, errW_none, errW_some] <;> rfl), bl_ HB⟩
   ·rw [if_neg c4] at H; have aT : decide (0 < (l0_1.length : Int)) = false := decide_eq_false c4; have aU : decide (0 < l0_1.length) = false := decide_eq_false (by omega); clear c4; obtain rfl := Option.some.inj H
    go_enter Try.func43, Try.ntmps43
    go_wp2_with (first | ((with_reducible refine gate_dst (N := 1) rfl ?_); (try (refine gate_guard (by rfl) ?_; dsimp only)); refine box_event ?hg (N := 1) ?hd (cs := #[.int .i64 a0_0, .slice A0_1 l0_1.length c0_1, .string a0_2]) (t := 29) ?hr ?_; (case hd => rfl); (case hg => rfl); (case hr => first | (go_simp; done) | (go_simp; rfl)); intro aB hg w9 hbox hb; have n0_ := bs_ HB hb; have n1_ := mk_ (hbox); have n2_ := gx_ hg HB; have n3_ := gx_ hg HB; clear HB; have HB := n0_; have aA := n1_; have aE := n2_; have aF := n3_; clear n0_ n1_ n2_ n3_; clear hb hbox hg; have bB : w9.cell? ⟨aB, 0, none⟩ = some (.int .i64 a0_0) := bc_ aA 0; have bC : w9.cell? ⟨aB, 1, none⟩ = some (.slice A0_1 l0_1.length c0_1) := bc_ aA 1; have bD : w9.cell? ⟨aB, 2, none⟩ = some (.string a0_2) := bc_ aA 2; have bE := blk_frozen aA.out 0; have bF := blk_frozen aA.out 1; have bG := blk_frozen aA.out 2))
    go_ret; exact ⟨by first | rfl | (simp [errW_none, errW_some] <;> rfl) | (simp [*, errW_none, errW_some] <;> rfl), bl_ HB⟩
  ·rw [if_neg c3] at H; have aR : (a0_2.toList == ([] : List UInt8)) = false := beq_eq_false_iff_ne.mpr c3; have aS : (a0_2.toList != ([] : List UInt8)) = true := bne_iff_ne.mpr c3; obtain rfl := Option.some.inj H
   go_enter Try.func43, Try.ntmps43
   go_wp2_with (first | ((with_reducible refine gate_dst (N := 1) rfl ?_); (try (refine gate_guard (by rfl) ?_; dsimp only)); refine box_event ?hg (N := 1) ?hd (cs := #[.int .i64 a0_0, .slice A0_1 l0_1.length c0_1, .string a0_2]) (t := 29) ?hr ?_; (case hd => rfl); (case hg => rfl); (case hr => first | (go_simp; done) | (go_simp; rfl)); intro aB hg aH hbox hb; have n0_ := bs_ HB hb; have n1_ := mk_ (hbox); have n2_ := gx_ hg HB; have n3_ := gx_ hg HB; clear HB; have HB := n0_; have aA := n1_; have aE := n2_; have aF := n3_; clear n0_ n1_ n2_ n3_; clear hb hbox hg; have bH : aH.cell? ⟨aB, 0, none⟩ = some (.int .i64 a0_0) := bc_ aA 0; have bI : aH.cell? ⟨aB, 1, none⟩ = some (.slice A0_1 l0_1.length c0_1) := bc_ aA 1; have bJ : aH.cell? ⟨aB, 2, none⟩ = some (.string a0_2) := bc_ aA 2; have bK := blk_frozen aA.out 0; have bL := blk_frozen aA.out 1; have bM := blk_frozen aA.out 2))
   go_ret; exact ⟨by first | rfl | (simp [errW_none, errW_some] <;> rfl) | (simp [*, errW_none, errW_some] <;> rfl), bl_ HB⟩
 ·rw [if_neg c2] at H; have aP : (a0_0 == 2) = false := beq_eq_false_iff_ne.mpr c2; have aQ : (a0_0 != 2) = true := bne_iff_ne.mpr c2; replace H := Option.bind_eq_some_iff.mp H; obtain ⟨aD, aL, H⟩ := H; replace H : (if aD = true then (some ((l0_1.length : Int) == 0)) else (some false)) = some r := H; have aM := mk_ aL; clear aL
  by_cases aG : aD = true
  ·subst aG
   have H1 : (some ((l0_1.length : Int) == 0)) = some r := by rw [if_pos rfl] at H; exact H
   clear H; have H := H1; clear H1; obtain rfl := Option.some.inj H
   go_enter Try.func43, Try.ntmps43
   go_wp2_with (first | ((with_reducible refine gate_dst (N := 1) rfl ?_); (try (refine gate_guard (by rfl) ?_; dsimp only)); refine box_event ?hg (N := 1) ?hd (cs := #[.int .i64 a0_0, .slice A0_1 l0_1.length c0_1, .string a0_2]) (t := 29) ?hr ?_; (case hd => rfl); (case hg => rfl); (case hr => first | (go_simp; done) | (go_simp; rfl)); intro aB hg aI hbox hb; have n0_ := bs_ HB hb; have n1_ := mk_ (hbox); have n2_ := gx_ hg HB; have n3_ := gx_ hg HB; clear HB; have HB := n0_; have aA := n1_; have aE := n2_; have aF := n3_; clear n0_ n1_ n2_ n3_; clear hb hbox hg; have bN : aI.cell? ⟨aB, 0, none⟩ = some (.int .i64 a0_0) := bc_ aA 0; have bO : aI.cell? ⟨aB, 1, none⟩ = some (.slice A0_1 l0_1.length c0_1) := bc_ aA 1; have bP : aI.cell? ⟨aB, 2, none⟩ = some (.string a0_2) := bc_ aA 2; have bQ := blk_frozen aA.out 0; have bR := blk_frozen aA.out 1; have bS := blk_frozen aA.out 2) | ((with_reducible refine gate_callee (f := 40) rfl ?_); refine goesL_ (some 23) rfl rfl Try.func40 (by kernel_rfl) rfl #[.int .i64 a0_0, .int .i64 256, .int .i64 65536] rfl (by (try simp only [List.map_toArray, List.map_cons, List.map_nil]); first | done | rfl | (simp only [List.length_drop, List.length_take]; rfl)) ?_; (with_reducible refine (ipfix_within.calls a0_0 256 65536 true _ aM.out).mono ?_); rintro e w' ⟨rfl, ⟨nd, rfl⟩⟩; refine ⟨_, rfl, ?_⟩))
   go_ret; exact ⟨by first | rfl | (simp [errW_none, errW_some] <;> rfl) | (simp [*, errW_none, errW_some] <;> rfl), bl_ HB⟩
  ·replace aG := Bool.eq_false_iff.mpr aG; subst aG
   have H1 : (some false) = some r := by rw [if_neg (show ¬ (false = true) by decide)] at H; exact H
   clear H; have H := H1; clear H1; obtain rfl := Option.some.inj H
   go_enter Try.func43, Try.ntmps43
   go_wp2_with (first | ((with_reducible refine gate_dst (N := 1) rfl ?_); (try (refine gate_guard (by rfl) ?_; dsimp only)); refine box_event ?hg (N := 1) ?hd (cs := #[.int .i64 a0_0, .slice A0_1 l0_1.length c0_1, .string a0_2]) (t := 29) ?hr ?_; (case hd => rfl); (case hg => rfl); (case hr => first | (go_simp; done) | (go_simp; rfl)); intro aB hg aJ hbox hb; have n0_ := bs_ HB hb; have n1_ := mk_ (hbox); have n2_ := gx_ hg HB; have n3_ := gx_ hg HB; clear HB; have HB := n0_; have aA := n1_; have aE := n2_; have aF := n3_; clear n0_ n1_ n2_ n3_; clear hb hbox hg; have bT : aJ.cell? ⟨aB, 0, none⟩ = some (.int .i64 a0_0) := bc_ aA 0; have bU : aJ.cell? ⟨aB, 1, none⟩ = some (.slice A0_1 l0_1.length c0_1) := bc_ aA 1; have bV : aJ.cell? ⟨aB, 2, none⟩ = some (.string a0_2) := bc_ aA 2; have bW := blk_frozen aA.out 0; have bX := blk_frozen aA.out 1; have bY := blk_frozen aA.out 2) | ((with_reducible refine gate_callee (f := 40) rfl ?_); refine goesL_ (some 23) rfl rfl Try.func40 (by kernel_rfl) rfl #[.int .i64 a0_0, .int .i64 256, .int .i64 65536] rfl (by (try simp only [List.map_toArray, List.map_cons, List.map_nil]); first | done | rfl | (simp only [List.length_drop, List.length_take]; rfl)) ?_; (with_reducible refine (ipfix_within.calls a0_0 256 65536 false _ aM.out).mono ?_); rintro e w' ⟨rfl, ⟨nd, rfl⟩⟩; refine ⟨_, rfl, ?_⟩))
   go_ret; exact ⟨by first | rfl | (simp [errW_none, errW_some] <;> rfl) | (simp [*, errW_none, errW_some] <;> rfl), bl_ HB⟩

-- NOT PRINTED: function 42 (ipfix_Right_1)

-- NOT PRINTED: function 54 (ipfix_Set_54)

/-! ### ipfix_Set_41: function 41 -/
def ipfix_Set_41.g (y : S29) : Option Bool := (ipfix_Set_right.f y.f0 y.f1 y.f2).bind fun t => some (!t)
def ipfix_Set_41.any (l : List S29) : Option Bool := l.foldr (fun y r => (ipfix_Set_41.g y).bind fun b => if b = true then some true else r) (some false)
def ipfix_Set_41.f (l0 : List S29) : Option Bool := if l0.length ≤ 9223372036854775807 then ipfix_Set_41.any l0 else none

set_option maxHeartbeats 80000000 in
set_option maxRecDepth 100000 in
theorem ipfix_Set_41.lit (y : S29) (A1 : Option Addr) (c1 : Nat) (b : Bool) (w : World) (hr : Kd.C k37 w A1 y.f1.length y.f1) (hc : y.f1.length ≤ c1) (h : ipfix_Set_41.g y = some b) : Calls Try.prog 42 #[.agg #[.int .i64 y.f0, .slice A1 y.f1.length c1, .string y.f2]] w fun e w' => e = .returned (.bool b) ∧ Below w.heap.size w w' := by
  unfold ipfix_Set_41.g at h
  obtain ⟨t, ht, h⟩ := Option.bind_eq_some_iff.mp h
  obtain rfl := Option.some.inj h
  have hu_ := Try.underlying29
  have HR := Aside0.mk hr
  have HC := Aside0.mk hc
  have HT := Aside0.mk ht
  have HB := Aside0.mk (Below.refl w.heap.size w)
  clear h hr hc ht
  go_enter Try.func42, Try.ntmps42
  go_wp2_with (first | ((with_reducible refine gate_dst (N := 1) rfl ?_); refine box_event ?hg (N := 1) ?hd (cs := #[.int .i64 y.f0, .slice A1 y.f1.length c1, .string y.f2]) (t := 29) ?hr ?_; (case hd => rfl); (case hg => rfl); (case hr => first | (go_simp; done) | (go_simp; rfl)); intro gb hg w2 hbox hb; have n0_ := Aside0.mk (below_step (bl_ HB) hb); have BK := Aside0.mk hbox; clear HB; have HB := n0_; clear n0_; clear hb hbox hg; have hcz_0 : w2.cell? ⟨gb, 0, none⟩ = some (.int .i64 y.f0) := (blk_cell BK.out 0).trans rfl; have hfz_0 := blk_frozen BK.out 0; have hcz_1 : w2.cell? ⟨gb, 1, none⟩ = some (.slice A1 y.f1.length c1) := (blk_cell BK.out 1).trans rfl; have hfz_1 := blk_frozen BK.out 1; have hcz_2 : w2.cell? ⟨gb, 2, none⟩ = some (.string y.f2) := (blk_cell BK.out 2).trans rfl; have hfz_2 := blk_frozen BK.out 2) | ((with_reducible refine gate_callee (f := 43) rfl ?_); refine goesL_ (some 4) rfl rfl Try.func43 (by kernel_rfl) rfl #[.agg #[.int .i64 y.f0, .slice A1 y.f1.length c1, .string y.f2]] rfl (by (try simp only [List.map_toArray, List.map_cons, List.map_nil]); first | done | rfl | (simp only [List.length_drop, List.length_take]; rfl)) ?_; (with_reducible refine (ipfix_Set_right.calls y.f0 A1 c1 y.f1 y.f2 t _ ?side1 ?side2 HT.out).mono ?_); (case side1 => repeat (first | exact (Kd.C_below HR.out HB.out) | (with_reducible refine Kd.C_alloc ?_ _) | (with_reducible refine Kd.C_drewN ?_ _) | (with_reducible refine Kd.C_drew ?_))); (case side2 => exact HC.out); rintro e w3 ⟨rfl, hb⟩; refine ⟨_, rfl, ?_⟩; have n0_ := Aside0.mk (below_step (bl_ HB) hb); clear HB; have HB := n0_; clear n0_; clear hb))
  go_ret
  exact ⟨by first | rfl | (simp; done) | (simp [*]; done), (bl_ HB)⟩

theorem ipfix_Set_41.drop_cons (l : List S29) (k : Nat) (h : k < l.length) : l.drop k = rd_T29 l (k : Int) :: l.drop (k + 1) := by
  rw [List.drop_eq_getElem_cons h]
  simp [rd_T29, List.getD_eq_getElem?_getD, h]

def ipfix_Set_41.Tells (r : Bool) (w : World) (e : Ending) (w' : World) : Prop := ∃ n : Int, e = .returned (.int .i64 n) ∧ decide (n ≥ 0) = r ∧ Below w.heap.size w w'

set_option maxHeartbeats 80000000 in
set_option maxRecDepth 100000 in
theorem ipfix_Set_41.index (A : Option Addr) (c : Nat) (l : List S29) (r : Bool) (w : World) (hr : Kd.C k29 w A l.length l) (hlen : l.length ≤ 9223372036854775807) (h : ipfix_Set_41.any l = some r) :
    Calls Try.prog 54 #[.slice A l.length c, .func (.func 42) #[] #[]] w (ipfix_Set_41.Tells r w) := by
  have HR := mk_ hr
  have H0 := mk_ h
  clear hr h
  have hu_ := Try.underlying29
  have e_ : ∀ (args : Array Value) (w : World), (callFunc 42 args).run Try.prog w = .ok (.enter 42 args) w := fun args w => enters_ Try.func42 (by kernel_rfl) rfl args w
  go_enter Try.func54, Try.ntmps54
  go_wp2
  go_loopg [5, 8] l.length (fun gg _ s8 wr => ∃ kk : Nat, kk ≤ l.length ∧ l.length - kk ≤ gg ∧ s8 = .int .i64 kk ∧ Aside0 (Below w.heap.size w wr) ∧ Aside0 (ipfix_Set_41.any (l.drop kk) = some r))
  case atStart => exact ⟨0, Nat.zero_le _, by omega, rfl, ⟨Below.refl _ w⟩, ⟨by rw [List.drop_zero]; exact H0.out⟩⟩
  case round =>
    obtain ⟨kk, hkk, hg, rfl, BW, HA⟩ := hrel
    by_cases hlt : kk < l.length
    · have h2 := HA.out
      rw [ipfix_Set_41.drop_cons l kk hlt, ipfix_Set_41.any, List.foldr_cons, ← ipfix_Set_41.any] at h2
      obtain ⟨b, hb, h2⟩ := Option.bind_eq_some_iff.mp h2
      have hltz : (kk : Int) < (l.length : Int) := by omega
      have hk0 : (0 : Int) ≤ (kk : Int) := by omega
      obtain ⟨ad, A1, c1, e, hx0, hx1, hx2, hl1, hi1⟩ := at_T29 HR.out (kk : Int) hk0 hltz
      cases e
      have hx0' := (BW.out.cell (World.block_lt_of_cell? w _ hx0)).trans hx0
      have hx1' := (BW.out.cell (World.block_lt_of_cell? w _ hx1)).trans hx1
      have hx2' := (BW.out.cell (World.block_lt_of_cell? w _ hx2)).trans hx2
      clear hx0 hx1 hx2
      simp only [Int.toNat_natCast] at hx0' hx1' hx2'
      have hcall := ipfix_Set_41.lit (rd_T29 l (kk : Int)) A1 c1 b wr (Kd.C_below hi1 BW.out) hl1 hb
      clear hb
      generalize rd_T29 l (kk : Int) = y at *
      cases b with
      | true =>
        rw [if_pos rfl] at h2
        obtain rfl := Option.some.inj h2
        clear h2
        go_wp2_with (go_at_fn 42; refine hcall.mono ?_; rintro e w' ⟨rfl, hb'⟩)
        go_ret
        exact ⟨(kk : Int), rfl, decide_eq_true (by omega), BW.out.trans (hb'.mono BW.out.size)⟩
      | false =>
        rw [if_neg (by decide)] at h2
        have H2 := mk_ h2
        clear h2
        go_wp2_with (go_at_fn 42; refine hcall.mono ?_; rintro e w' ⟨rfl, hb'⟩)
        go_roundg (l.length - (kk + 1))
        case measure => omega
        case rel => exact ⟨kk + 1, by omega, by omega, by go_num, ⟨BW.out.trans (hb'.mono BW.out.size)⟩, H2⟩
    · have hltz : ¬ (kk : Int) < (l.length : Int) := by omega
      have : kk = l.length := by omega
      subst this
      have h2 := HA.out
      rw [List.drop_length, ipfix_Set_41.any, List.foldr_nil] at h2
      obtain rfl := Option.some.inj h2
      clear h2
      go_wp2
      go_ret
      exact ⟨-1, rfl, by decide, BW.out⟩

set_option maxHeartbeats 80000000 in
set_option maxRecDepth 100000 in
theorem ipfix_Set_41.calls (A0 : Option Addr) (c0 : Nat) (l0 : List (S29)) (r : Bool) (w : World) (hr0 : Kd.C k29 w A0 l0.length l0) (hc0 : l0.length ≤ c0) (h : ipfix_Set_41.f l0 = some r) :
    Calls Try.prog 41 #[.slice A0 l0.length c0, .func (.func 42) #[] #[]] w fun e w' => e = .returned (.bool r) ∧ Below w.heap.size w w' := by
 unfold ipfix_Set_41.f at h
 split at h
 ·rename_i hlen
  have hcall := ipfix_Set_41.index A0 c0 l0 r w hr0 hlen h; clear hr0 h
  have e_ : ∀ (args : Array Value) (w : World), (callFunc 54 args).run Try.prog w = .ok (.enter 54 args) w := fun args w => enters_ Try.func54 (by kernel_rfl) rfl args w
  go_enter Try.func41, Try.ntmps41
  go_wp2_with (go_at_fn 54; refine hcall.mono ?_; rintro e w' ⟨n, rfl, hn, hb⟩; have HN := mk_ hn; clear hn)
  go_ret; rw [HN.out]
  exact ⟨rfl, hb⟩
 ·cases h

/-! ### ipfix_Right: function 23 -/
def ipfix_Right.f (a0_0 : Int) (a0_1 : Int) (a0_2 : Int) (l0_3 : List (S29)) : Option (Bool) := (ipfix_within.f a0_0 0 4294967296).bind fun t122 => (if t122 = true then ((ipfix_within.f a0_1 0 4294967296).bind fun t123 => (if t123 = true then ((ipfix_within.f a0_2 0 4294967296).bind fun t124 => (if t124 = true then ((ipfix_Set_41.f l0_3).bind fun t125 => (some (!t125))) else (some false))) else (some false))) else (some false))
set_option maxHeartbeats 80000000 in
set_option maxRecDepth 100000 in
theorem ipfix_Right.calls (a0_0 : Int) (a0_1 : Int) (a0_2 : Int) (A0_3 : Option Addr) (c0_3 : Nat) (l0_3 : List (S29)) (r : Bool) (w : World) (hr0_3 : Kd.C k29 w A0_3 l0_3.length l0_3) (hc0_3 : l0_3.length ≤ c0_3) (h : ipfix_Right.f a0_0 a0_1 a0_2 l0_3 = some r) :
    Calls Try.prog 23 #[.agg #[.int .i64 a0_0, .int .i64 a0_1, .int .i64 a0_2, .slice A0_3 l0_3.length c0_3]] w fun e w' => e = .returned (.bool r) ∧ Below w.heap.size w w' := by
 have hu32 := Try.underlying32; have aP := mk_ hr0_3; have aQ := mk_ hc0_3; clear hr0_3 hc0_3; have HB := mk_ (Below.refl w.heap.size w); have H : ((ipfix_within.f a0_0 0 4294967296).bind fun aF => (if aF = true then ((ipfix_within.f a0_1 0 4294967296).bind fun aE => (if aE = true then ((ipfix_within.f a0_2 0 4294967296).bind fun aD => (if aD = true then ((ipfix_Set_41.f l0_3).bind fun aC => (some (!aC))) else (some false))) else (some false))) else (some false))) = some r := h; clear h; replace H := Option.bind_eq_some_iff.mp H; obtain ⟨aF, aL, H⟩ := H; replace H : (if aF = true then ((ipfix_within.f a0_1 0 4294967296).bind fun aE => (if aE = true then ((ipfix_within.f a0_2 0 4294967296).bind fun aD => (if aD = true then ((ipfix_Set_41.f l0_3).bind fun aC => (some (!aC))) else (some false))) else (some false))) else (some false)) = some r := H; have A2 := mk_ aL; clear aL
 by_cases c3 : aF = true
 ·subst c3
  have H1 : ((ipfix_within.f a0_1 0 4294967296).bind fun aE => (if aE = true then ((ipfix_within.f a0_2 0 4294967296).bind fun aD => (if aD = true then ((ipfix_Set_41.f l0_3).bind fun aC => (some (!aC))) else (some false))) else (some false))) = some r := by rw [if_pos rfl] at H; exact H
  clear H; have H := H1; clear H1; replace H := Option.bind_eq_some_iff.mp H; obtain ⟨aE, aM, H⟩ := H; replace H : (if aE = true then ((ipfix_within.f a0_2 0 4294967296).bind fun aD => (if aD = true then ((ipfix_Set_41.f l0_3).bind fun aC => (some (!aC))) else (some false))) else (some false)) = some r := H; have A4 := mk_ aM; clear aM
  by_cases c5 : aE = true
  ·subst c5
   have H1 : ((ipfix_within.f a0_2 0 4294967296).bind fun aD => (if aD = true then ((ipfix_Set_41.f l0_3).bind fun aC => (some (!aC))) else (some false))) = some r := by rw [if_pos rfl] at H; exact H
   clear H; have H := H1; clear H1; replace H := Option.bind_eq_some_iff.mp H; obtain ⟨aD, aN, H⟩ := H; replace H : (if aD = true then ((ipfix_Set_41.f l0_3).bind fun aC => (some (!aC))) else (some false)) = some r := H; have A6 := mk_ aN; clear aN
   by_cases c7 : aD = true
   ·subst c7
    have H1 : ((ipfix_Set_41.f l0_3).bind fun aC => (some (!aC))) = some r := by rw [if_pos rfl] at H; exact H
    clear H; have H := H1; clear H1; replace H := Option.bind_eq_some_iff.mp H; obtain ⟨aC, aO, H⟩ := H; replace H : (some (!aC)) = some r := H; have A8 := mk_ aO; clear aO; obtain rfl := Option.some.inj H
    go_enter Try.func23, Try.ntmps23
    go_wp2_with (first | ((with_reducible refine gate_dst (N := 1) rfl ?_); refine box_event ?hg (N := 1) ?hd (cs := #[.int .i64 a0_0, .int .i64 a0_1, .int .i64 a0_2, .slice A0_3 l0_3.length c0_3]) (t := 32) ?hr ?_; (case hd => rfl); (case hg => rfl); (case hr => first | (go_simp; done) | (go_simp; rfl)); intro aB hg w9 hbox hb; have n0_ := bs_ HB hb; have n1_ := mk_ (hbox); have n2_ := gx_ hg HB; have n3_ := gx_ hg HB; clear HB; have HB := n0_; have aA := n1_; have aJ := n2_; have aK := n3_; clear n0_ n1_ n2_ n3_; clear hb hbox hg; have aR : w9.cell? ⟨aB, 0, none⟩ = some (.int .i64 a0_0) := bc_ aA 0; have aS : w9.cell? ⟨aB, 1, none⟩ = some (.int .i64 a0_1) := bc_ aA 1; have aT : w9.cell? ⟨aB, 2, none⟩ = some (.int .i64 a0_2) := bc_ aA 2; have aU : w9.cell? ⟨aB, 3, none⟩ = some (.slice A0_3 l0_3.length c0_3) := bc_ aA 3; have aV := blk_frozen aA.out 0; have aW := blk_frozen aA.out 1; have aX := blk_frozen aA.out 2; have aY := blk_frozen aA.out 3) | ((with_reducible refine gate_callee (f := 40) rfl ?_); refine goesL_ (some 5) rfl rfl Try.func40 (by kernel_rfl) rfl #[.int .i64 a0_0, .int .i64 0, .int .i64 4294967296] rfl (by (try simp only [List.map_toArray, List.map_cons, List.map_nil]); first | done | rfl | (simp only [List.length_drop, List.length_take]; rfl)) ?_; (with_reducible refine (ipfix_within.calls a0_0 0 4294967296 true _ A2.out).mono ?_); rintro e w' ⟨rfl, ⟨nd, rfl⟩⟩; refine ⟨_, rfl, ?_⟩) | (go_at_call 40; (with_reducible refine (ipfix_within.calls a0_1 0 4294967296 true _ A4.out).mono ?_); rintro e w' ⟨rfl, ⟨nd, rfl⟩⟩) | (go_at_call 40; (with_reducible refine (ipfix_within.calls a0_2 0 4294967296 true _ A6.out).mono ?_); rintro e w' ⟨rfl, ⟨nd, rfl⟩⟩) | (go_at_call 41; (with_reducible refine (ipfix_Set_41.calls _ _ l0_3 aC _ ?side1 ?side2 A8.out).mono ?_); (case side1 => repeat (first | exact (Kd.C_below aP.out (bl_ HB)) | (with_reducible refine Kd.C_alloc ?_ _) | (with_reducible refine Kd.C_drewN ?_ _) | (with_reducible refine Kd.C_drew ?_))); (case side2 => exact aQ.out); rintro e aZ ⟨rfl, hb⟩; have n0_ := bb_ aA hb; have n1_ := bs_ HB hb; clear aA; clear HB; have aA := n0_; have HB := n1_; clear n0_ n1_; (try clear hb); (try clear hb2); (try clear hk); (try clear hi)))
    go_ret; exact ⟨by first | rfl | (simp [errW_none, errW_some] <;> rfl) | (simp [*, errW_none, errW_some] <;> rfl), bl_ HB⟩
   ·replace c7 := Bool.eq_false_iff.mpr c7; subst c7
    have H1 : (some false) = some r := by rw [if_neg (show ¬ (false = true) by decide)] at H; exact H
    clear H; have H := H1; clear H1; obtain rfl := Option.some.inj H
    go_enter Try.func23, Try.ntmps23
    go_wp2_with (first | ((with_reducible refine gate_dst (N := 1) rfl ?_); refine box_event ?hg (N := 1) ?hd (cs := #[.int .i64 a0_0, .int .i64 a0_1, .int .i64 a0_2, .slice A0_3 l0_3.length c0_3]) (t := 32) ?hr ?_; (case hd => rfl); (case hg => rfl); (case hr => first | (go_simp; done) | (go_simp; rfl)); intro aB hg aG hbox hb; have n0_ := bs_ HB hb; have n1_ := mk_ (hbox); have n2_ := gx_ hg HB; have n3_ := gx_ hg HB; clear HB; have HB := n0_; have aA := n1_; have aJ := n2_; have aK := n3_; clear n0_ n1_ n2_ n3_; clear hb hbox hg; have bA : aG.cell? ⟨aB, 0, none⟩ = some (.int .i64 a0_0) := bc_ aA 0; have bB : aG.cell? ⟨aB, 1, none⟩ = some (.int .i64 a0_1) := bc_ aA 1; have bC : aG.cell? ⟨aB, 2, none⟩ = some (.int .i64 a0_2) := bc_ aA 2; have bD : aG.cell? ⟨aB, 3, none⟩ = some (.slice A0_3 l0_3.length c0_3) := bc_ aA 3; have bE := blk_frozen aA.out 0; have bF := blk_frozen aA.out 1; have bG := blk_frozen aA.out 2; have bH := blk_frozen aA.out 3) | ((with_reducible refine gate_callee (f := 40) rfl ?_); refine goesL_ (some 5) rfl rfl Try.func40 (by kernel_rfl) rfl #[.int .i64 a0_0, .int .i64 0, .int .i64 4294967296] rfl (by (try simp only [List.map_toArray, List.map_cons, List.map_nil]); first | done | rfl | (simp only [List.length_drop, List.length_take]; rfl)) ?_; (with_reducible refine (ipfix_within.calls a0_0 0 4294967296 true _ A2.out).mono ?_); rintro e w' ⟨rfl, ⟨nd, rfl⟩⟩; refine ⟨_, rfl, ?_⟩) | (go_at_call 40; (with_reducible refine (ipfix_within.calls a0_1 0 4294967296 true _ A4.out).mono ?_); rintro e w' ⟨rfl, ⟨nd, rfl⟩⟩) | (go_at_call 40; (with_reducible refine (ipfix_within.calls a0_2 0 4294967296 false _ A6.out).mono ?_); rintro e w' ⟨rfl, ⟨nd, rfl⟩⟩))
    go_ret; exact ⟨by first | rfl | (simp [errW_none, errW_some] <;> rfl) | (simp [*, errW_none, errW_some] <;> rfl), bl_ HB⟩
  ·replace c5 := Bool.eq_false_iff.mpr c5; subst c5
   have H1 : (some false) = some r := by rw [if_neg (show ¬ (false = true) by decide)] at H; exact H
   clear H; have H := H1; clear H1; obtain rfl := Option.some.inj H
   go_enter Try.func23, Try.ntmps23
   go_wp2_with (first | ((with_reducible refine gate_dst (N := 1) rfl ?_); refine box_event ?hg (N := 1) ?hd (cs := #[.int .i64 a0_0, .int .i64 a0_1, .int .i64 a0_2, .slice A0_3 l0_3.length c0_3]) (t := 32) ?hr ?_; (case hd => rfl); (case hg => rfl); (case hr => first | (go_simp; done) | (go_simp; rfl)); intro aB hg aH hbox hb; have n0_ := bs_ HB hb; have n1_ := mk_ (hbox); have n2_ := gx_ hg HB; have n3_ := gx_ hg HB; clear HB; have HB := n0_; have aA := n1_; have aJ := n2_; have aK := n3_; clear n0_ n1_ n2_ n3_; clear hb hbox hg; have bI : aH.cell? ⟨aB, 0, none⟩ = some (.int .i64 a0_0) := bc_ aA 0; have bJ : aH.cell? ⟨aB, 1, none⟩ = some (.int .i64 a0_1) := bc_ aA 1; have bK : aH.cell? ⟨aB, 2, none⟩ = some (.int .i64 a0_2) := bc_ aA 2; have bL : aH.cell? ⟨aB, 3, none⟩ = some (.slice A0_3 l0_3.length c0_3) := bc_ aA 3; have bM := blk_frozen aA.out 0; have bN := blk_frozen aA.out 1; have bO := blk_frozen aA.out 2; have bP := blk_frozen aA.out 3) | ((with_reducible refine gate_callee (f := 40) rfl ?_); refine goesL_ (some 5) rfl rfl Try.func40 (by kernel_rfl) rfl #[.int .i64 a0_0, .int .i64 0, .int .i64 4294967296] rfl (by (try simp only [List.map_toArray, List.map_cons, List.map_nil]); first | done | rfl | (simp only [List.length_drop, List.length_take]; rfl)) ?_; (with_reducible refine (ipfix_within.calls a0_0 0 4294967296 true _ A2.out).mono ?_); rintro e w' ⟨rfl, ⟨nd, rfl⟩⟩; refine ⟨_, rfl, ?_⟩) | (go_at_call 40; (with_reducible refine (ipfix_within.calls a0_1 0 4294967296 false _ A4.out).mono ?_); rintro e w' ⟨rfl, ⟨nd, rfl⟩⟩))
   go_ret; exact ⟨by first | rfl | (simp [errW_none, errW_some] <;> rfl) | (simp [*, errW_none, errW_some] <;> rfl), bl_ HB⟩
 ·replace c3 := Bool.eq_false_iff.mpr c3; subst c3
  have H1 : (some false) = some r := by rw [if_neg (show ¬ (false = true) by decide)] at H; exact H
  clear H; have H := H1; clear H1; obtain rfl := Option.some.inj H
  go_enter Try.func23, Try.ntmps23
  go_wp2_with (first | ((with_reducible refine gate_dst (N := 1) rfl ?_); refine box_event ?hg (N := 1) ?hd (cs := #[.int .i64 a0_0, .int .i64 a0_1, .int .i64 a0_2, .slice A0_3 l0_3.length c0_3]) (t := 32) ?hr ?_; (case hd => rfl); (case hg => rfl); (case hr => first | (go_simp; done) | (go_simp; rfl)); intro aB hg aI hbox hb; have n0_ := bs_ HB hb; have n1_ := mk_ (hbox); have n2_ := gx_ hg HB; have n3_ := gx_ hg HB; clear HB; have HB := n0_; have aA := n1_; have aJ := n2_; have aK := n3_; clear n0_ n1_ n2_ n3_; clear hb hbox hg; have bQ : aI.cell? ⟨aB, 0, none⟩ = some (.int .i64 a0_0) := bc_ aA 0; have bR : aI.cell? ⟨aB, 1, none⟩ = some (.int .i64 a0_1) := bc_ aA 1; have bS : aI.cell? ⟨aB, 2, none⟩ = some (.int .i64 a0_2) := bc_ aA 2; have bT : aI.cell? ⟨aB, 3, none⟩ = some (.slice A0_3 l0_3.length c0_3) := bc_ aA 3; have bU := blk_frozen aA.out 0; have bV := blk_frozen aA.out 1; have bW := blk_frozen aA.out 2; have bX := blk_frozen aA.out 3) | ((with_reducible refine gate_callee (f := 40) rfl ?_); refine goesL_ (some 5) rfl rfl Try.func40 (by kernel_rfl) rfl #[.int .i64 a0_0, .int .i64 0, .int .i64 4294967296] rfl (by (try simp only [List.map_toArray, List.map_cons, List.map_nil]); first | done | rfl | (simp only [List.length_drop, List.length_take]; rfl)) ?_; (with_reducible refine (ipfix_within.calls a0_0 0 4294967296 false _ A2.out).mono ?_); rintro e w' ⟨rfl, ⟨nd, rfl⟩⟩; refine ⟨_, rfl, ?_⟩))
  go_ret; exact ⟨by first | rfl | (simp [errW_none, errW_some] <;> rfl) | (simp [*, errW_none, errW_some] <;> rfl), bl_ HB⟩

/-- A state of type 85 at block g of W; what its slices lead to came in by w0. -/
def IsS85 (w0 W : World) (g : Nat) (f0 : ByteArray) (f1 : Bool) : Prop := W.heap[g]? = some (.cells #[.string f0, .bool f1] 85 (0, 0)) ∧ w0.heap.size ≤ g
theorem IsS85.grown {w0 W : World} {g : Nat} {f0 : ByteArray} {f1 : Bool} {W1 : World} {row : Option Nat} (h : IsS85 w0 W g f0 f1) (hw : W.grownBy W1 row) (hne : some g ≠ row) : IsS85 w0 W1 g f0 f1 := by
 obtain ⟨hb, hg⟩ := h; exact ⟨blk_grown hb hw hne, hg⟩
theorem IsS85.own_neN {w0 W : World} {g : Nat} {f0 : ByteArray} {f1 : Bool} {α : Type} {d : Kd α} {e : Nat} {base : Nat} {ok : Nat → Prop} {v : Value} {xs : List α} (h : IsS85 w0 W g f0 f1) (ho : Kd.N d e W base ok v xs) (ht : e ≠ 85) : some g ≠ v.ownBlock := by
 obtain ⟨hb, hg⟩ := h; exact Kd.N_ne ho hb ht
theorem IsS85.fresh {w0 W : World} {g : Nat} {f0 : ByteArray} {f1 : Bool} (h : IsS85 w0 W g f0 f1) : ∀ k, W.heap.size ≤ k → k ≠ g := by
 obtain ⟨hb, hg⟩ := h; exact Kd.freshB hb
theorem IsS85.kept {w0 W : World} {g : Nat} {f0 : ByteArray} {f1 : Bool} {W1 : World} {S : Nat → Prop} (h : IsS85 w0 W g f0 f1) (hk : Kept W W1 S) (hne : ¬ S g) : IsS85 w0 W1 g f0 f1 := by
 obtain ⟨hb, hg⟩ := h; exact ⟨blk_kept hb hk hne, hg⟩
theorem IsS85.kept2 {w0 W : World} {g : Nat} {f0 : ByteArray} {f1 : Bool} {W1 : World} {g2 : Nat} (h : IsS85 w0 W g f0 f1) (hk : KeepBut W W1 g2 none) (hne : g ≠ g2) : IsS85 w0 W1 g f0 f1 := by
 obtain ⟨hb, hg⟩ := h; exact ⟨KeepBut.blk hk hb hne (by simp), hg⟩
theorem IsS85.below {w0 W : World} {g : Nat} {f0 : ByteArray} {f1 : Bool} {W1 : World} (h : IsS85 w0 W g f0 f1) (hw : Below W.heap.size W W1) : IsS85 w0 W1 g f0 f1 := h.grown (grown_of_below hw none) (by simp)
theorem IsS85.alloc {w0 W : World} {g : Nat} {f0 : ByteArray} {f1 : Bool} (h : IsS85 w0 W g f0 f1) (o : Obj) : IsS85 w0 (W.alloc o) g f0 f1 := h.below (below_alloc (Below.refl _ _) o)
theorem IsS85.drewN {w0 W : World} {g : Nat} {f0 : ByteArray} {f1 : Bool} (h : IsS85 w0 W g f0 f1) (m : Nat) : IsS85 w0 (W.drewN m) g f0 f1 := h
theorem IsS85.drew {w0 W : World} {g : Nat} {f0 : ByteArray} {f1 : Bool} (h : IsS85 w0 W g f0 f1) : IsS85 w0 W.drew g f0 f1 := h
theorem IsS85.at_ {w0 W : World} {g : Nat} {f0 : ByteArray} {f1 : Bool} {w' : World} {m : Nat} (hq : W.drewN m = w') (h : IsS85 w0 W g f0 f1) : IsS85 w0 w' g f0 f1 := by subst hq; exact IsS85.drewN h m
theorem IsS85.apart {w0 W : World} {g : Nat} {f0 : ByteArray} {f1 : Bool} {α : Type} {d : Kd α} {e : Nat} {base : Nat} {ok : Nat → Prop} {v : Value} {xs : List α} (h : IsS85 w0 W g f0 f1) (ho : d.R e W base ok v xs) (ht : ∀ q, q ∈ e :: d.E → q ≠ 85) : d.R e W base (fun k => ok k ∧ k ≠ g) v xs := by
 obtain ⟨hb, hg⟩ := h; exact Kd.R_types ho hb ht
theorem IsS85.own_ne {w0 W : World} {g : Nat} {f0 : ByteArray} {f1 : Bool} {α : Type} {d : Kd α} {e : Nat} {base : Nat} {ok : Nat → Prop} {v : Value} {xs : List α} (h : IsS85 w0 W g f0 f1) (ho : d.R e W base ok v xs) (ht : e ≠ 85) : some g ≠ v.ownBlock := by
 obtain ⟨hb, hg⟩ := h; exact Kd.R_ne ho hb ht
theorem IsS85.apartQ {w0 W : World} {g : Nat} {f0 : ByteArray} {f1 : Bool} {α : Type} {d : Kd α} {e : Nat} {base : Nat} {ok : Nat → Prop} {v : Value} {xs : List α} (h : IsS85 w0 W g f0 f1) (ho : d.Q e W base ok v xs) (ht : ∀ q, q ∈ e :: d.E → q ≠ 85) : d.Q e W base (fun k => ok k ∧ k ≠ g) v xs := by
 obtain ⟨hb, hg⟩ := h; exact Kd.Q_types ho hb ht
theorem IsS85.own_neQ {w0 W : World} {g : Nat} {f0 : ByteArray} {f1 : Bool} {α : Type} {d : Kd α} {e : Nat} {base : Nat} {ok : Nat → Prop} {v : Value} {xs : List α} (h : IsS85 w0 W g f0 f1) (ho : d.Q e W base ok v xs) (ht : e ≠ 85) : some g ≠ v.ownBlock := by
 obtain ⟨hb, hg⟩ := h; exact Kd.Q_ne ho hb ht
theorem IsS85.apartS {w0 W : World} {g : Nat} {f0 : ByteArray} {f1 : Bool} {α : Type} {d : Kd α} {e : Nat} {base : Nat} {ok : Nat → Prop} {v : Value} {xs : List α} (h : IsS85 w0 W g f0 f1) (ho : d.S e W base ok v xs) (ht : ∀ q, q ∈ e :: d.E → q ≠ 85) : d.S e W base (fun k => ok k ∧ k ≠ g) v xs := by
 obtain ⟨hb, hg⟩ := h; exact Kd.S_types ho hb ht
theorem IsS85.own_neS {w0 W : World} {g : Nat} {f0 : ByteArray} {f1 : Bool} {α : Type} {d : Kd α} {e : Nat} {base : Nat} {ok : Nat → Prop} {v : Value} {xs : List α} (h : IsS85 w0 W g f0 f1) (ho : d.S e W base ok v xs) (ht : e ≠ 85) : some g ≠ v.ownBlock := by
 obtain ⟨hb, hg⟩ := h; exact Kd.S_ne ho hb ht
theorem IsS85.lt {w0 W : World} {g : Nat} {f0 : ByteArray} {f1 : Bool} (h : IsS85 w0 W g f0 f1) : g < W.heap.size := by
 obtain ⟨hb, hg⟩ := h; exact blk_lt hb
theorem IsS85.ge {w0 W : World} {g : Nat} {f0 : ByteArray} {f1 : Bool} (h : IsS85 w0 W g f0 f1) : w0.heap.size ≤ g := by
 obtain ⟨hb, hg⟩ := h; exact hg
theorem IsS85.ne_blk {w0 W : World} {g : Nat} {f0 : ByteArray} {f1 : Bool} {a : Nat} {cs : Array Value} {t : TypeId} {fr : Nat × Nat} (h : IsS85 w0 W g f0 f1) (hb2 : W.heap[a]? = some (.cells cs t fr)) (ht : t ≠ 85) : g ≠ a := by
 obtain ⟨hb, hg⟩ := h; rintro rfl; rw [hb] at hb2
 injection hb2 with hb2
 injection hb2 with _ ht2
 exact ht ht2.symm
theorem IsS85.far {w0 W : World} {g : Nat} {f0 : ByteArray} {f1 : Bool} {p : Addr} (h : IsS85 w0 W g f0 f1) (hne : g ≠ p.block) (u : Value) : IsS85 w0 (W.setCell p u) g f0 f1 := by
 obtain ⟨hb, hg⟩ := h; exact ⟨blk_far hb hne u, hg⟩
theorem cellS85_0 {W : World} {g : Nat} {f0 : ByteArray} {f1 : Bool} (h : W.heap[g]? = some (.cells #[.string f0, .bool f1] 85 (0, 0))) : W.cell? ⟨g, 0, none⟩ = some (.string f0) := (blk_cell h 0).trans rfl
theorem IsS85.set_0 {w0 W : World} {g : Nat} {f0 : ByteArray} {f1 : Bool} (h : IsS85 w0 W g f0 f1) (x : ByteArray) : IsS85 w0 (W.setCell ⟨g, 0, none⟩ (.string x)) g x f1 := by
 obtain ⟨hb, hg⟩ := h; exact ⟨by simpa using blk_set hb 0 (.string x), hg⟩
theorem cellS85_1 {W : World} {g : Nat} {f0 : ByteArray} {f1 : Bool} (h : W.heap[g]? = some (.cells #[.string f0, .bool f1] 85 (0, 0))) : W.cell? ⟨g, 1, none⟩ = some (.bool f1) := (blk_cell h 1).trans rfl
theorem IsS85.set_1 {w0 W : World} {g : Nat} {f0 : ByteArray} {f1 : Bool} (h : IsS85 w0 W g f0 f1) (x : Bool) : IsS85 w0 (W.setCell ⟨g, 1, none⟩ (.bool x)) g f0 x := by
 obtain ⟨hb, hg⟩ := h; exact ⟨by simpa using blk_set hb 1 (.bool x), hg⟩
theorem IsS85.new (w0 W : World) (f0 : ByteArray) (f1 : Bool) (hB : Below w0.heap.size w0 W) : IsS85 w0 (W.alloc (.cells #[.string f0, .bool f1] 85)) W.heap.size f0 f1 := ⟨by simpa using heap_alloc_new W _, hB.size⟩

/-! ### abi_NoEscape: function 57 -/
def abi_NoEscape.f (a0 : ByteArray) : Option (ByteArray × Bool) := some (a0, false)
-- NOT PRINTED: function 47 (strings_Builder_copyCheck)

/-! ### strings_Builder_WriteString: function 30 -/
def strings_Builder_WriteString.f (s0_0 : ByteArray) (s0_1 : Bool) (a1 : ByteArray) : Option (Int × Option Int × ByteArray × Bool) := if s0_0.size + a1.size ≤ 140737488355328 then (some ((a1.size : Int), none, s0_0 ++ a1, s0_1)) else (none)
set_option maxHeartbeats 80000000 in
set_option maxRecDepth 100000 in
theorem strings_Builder_WriteString.calls (g : Nat) (s0_0 : ByteArray) (s0_1 : Bool) (a1 : ByteArray) (r1 : Int) (r2 : Option Int) (r3 : ByteArray) (r4 : Bool) (w0 w : World) (hI : Built.IsBld w0 w g s0_0 s0_1) (hB : Below w0.heap.size w0 w) (h : strings_Builder_WriteString.f s0_0 s0_1 a1 = some (r1, r2, r3, r4)) :
    Calls Try.prog 30 #[.pointer (some ⟨g, 0, none⟩), .string a1] w fun e w' => e = .returned (.tuple #[.int .i64 r1, errW r2]) ∧ Built.IsBld w0 w' g r3 r4 ∧ Below w0.heap.size w0 w' ∧ Built.KeepT w w' g := by
 unfold strings_Builder_WriteString.f at h
 split at h
 ·rename_i hl
  simp only [Option.some.injEq, Prod.mk.injEq] at h; obtain ⟨rfl, rfl, rfl, rfl⟩ := h; exact Built.writeString g s0_0 s0_1 a1 w0 w hI hB hl
 ·cases h

/-! ### octet_Put: function 29 -/
mutual
def octet_Put.j0 : Nat → Int → Int → Bool → Option (ByteArray × Int)
  | 0, _, _, _ => none
  | k + 1, x0, x1, x24 => if x24 = true then (some ((⟨#[]⟩ : ByteArray), 1)) else (if 0 ≤ x1 then (if (x1 : Int).toNat ≤ 281474976710656 then ((some (List.replicate (x1 : Int).toNat 0 : List Int)).bind fun y127 => (octet_Put.l0 k x0 x1 y127 (y127.length : Int) 0)) else (none)) else (none))
def octet_Put.l0 : Nat → Int → Int → List Int → Int → Int → Option (ByteArray × Int)
  | 0, _, _, _, _, _ => none
  | k + 1, x0, x1, x6, x28, x29 => if x29 < x28 then (if 0 ≤ (wrap64 (8 * (wrap64 ((wrap64 (x1 - 1)) - x29)))) then (if 0 ≤ x29 then (if x29 < (x6.length : Int) then (octet_Put.l0 k x0 x1 (x6.set (x29 : Int).toNat ((shr .i64 x0 (wrap64 (8 * (wrap64 ((wrap64 (x1 - 1)) - x29))))) % 256)) x28 (wrap64 (x29 + 1))) else (none)) else (none)) else (none)) else (some (strOfNums x6, 0))
end
def octet_Put.f (k : Nat) (a0 : Int) (a1 : Int) : Option (ByteArray × Int) := if a1 < 1 then (octet_Put.j0 k a0 a1 true) else (if a1 > 7 then (octet_Put.j0 k a0 a1 true) else (if a0 < 0 then (octet_Put.j0 k a0 a1 true) else (if 0 ≤ (wrap64 (8 * a1)) then (octet_Put.j0 k a0 a1 ((shr .i64 a0 (wrap64 (8 * a1))) != 0)) else (none))))
theorem octet_Put.mono_l : ∀ k, (∀ y0 y1 y2, LeO (octet_Put.j0 k y0 y1 y2) (octet_Put.j0 (k + 1) y0 y1 y2)) ∧ (∀ y0 y1 y2 y3 y4, LeO (octet_Put.l0 k y0 y1 y2 y3 y4) (octet_Put.l0 (k + 1) y0 y1 y2 y3 y4))
  | 0 => ⟨fun _ _ _ r h => by simp [octet_Put.j0] at h, fun _ _ _ _ _ r h => by simp [octet_Put.l0] at h⟩
  | k + 1 => by
    obtain ⟨ih0, ih1⟩ := octet_Put.mono_l k
    refine ⟨?_, ?_⟩
    · intro y0 y1 y2
      unfold octet_Put.j0
      repeat' first
      | (with_reducible exact ih0 _ _ _)
      | (with_reducible exact ih1 _ _ _ _ _)
      | (with_reducible exact LeO.refl _)
      | (with_reducible exact LeO.none _)
      | (with_reducible refine LeO.ite ?_ ?_)
      | (with_reducible refine LeO.bind ?_ (fun _ => ?_))
      | exact ih0 _ _ _
      | exact ih1 _ _ _ _ _
      | exact LeO.none _
      | refine LeO.ite ?_ ?_
      | refine LeO.bind ?_ (fun _ => ?_)
    · intro y0 y1 y2 y3 y4
      unfold octet_Put.l0
      repeat' first
      | (with_reducible exact ih0 _ _ _)
      | (with_reducible exact ih1 _ _ _ _ _)
      | (with_reducible exact LeO.refl _)
      | (with_reducible exact LeO.none _)
      | (with_reducible refine LeO.ite ?_ ?_)
      | (with_reducible refine LeO.bind ?_ (fun _ => ?_))
      | exact ih0 _ _ _
      | exact ih1 _ _ _ _ _
      | exact LeO.none _
      | refine LeO.ite ?_ ?_
      | refine LeO.bind ?_ (fun _ => ?_)
theorem octet_Put.mono : ∀ a0 a1 k, LeO (octet_Put.f k a0 a1) (octet_Put.f (k + 1) a0 a1) := by
  intro a0 a1 k
  obtain ⟨ih0, ih1⟩ := octet_Put.mono_l k
  unfold octet_Put.f
  repeat' first
      | (with_reducible exact ih0 _ _ _)
      | (with_reducible exact ih1 _ _ _ _ _)
      | (with_reducible exact LeO.refl _)
      | (with_reducible exact LeO.none _)
      | (with_reducible refine LeO.ite ?_ ?_)
      | (with_reducible refine LeO.bind ?_ (fun _ => ?_))
      | exact ih0 _ _ _
      | exact ih1 _ _ _ _ _
      | exact LeO.none _
      | refine LeO.ite ?_ ?_
      | refine LeO.bind ?_ (fun _ => ?_)
set_option maxHeartbeats 80000000 in
set_option maxRecDepth 100000 in
theorem octet_Put.calls (k : Nat) (a0 : Int) (a1 : Int) (r1 : ByteArray) (r2 : Int) (w : World) (h : octet_Put.f k a0 a1 = some (r1, r2)) :
    Calls Try.prog 29 #[.int .i64 a0, .int .i64 a1] w fun e w' => e = .returned (.tuple #[.string r1, .int .i64 r2]) ∧ Below w.heap.size w w' := by
 have HB := mk_ (Below.refl w.heap.size w); have H : (if a1 < 1 then (octet_Put.j0 k a0 a1 true) else (if a1 > 7 then (octet_Put.j0 k a0 a1 true) else (if a0 < 0 then (octet_Put.j0 k a0 a1 true) else (if 0 ≤ (wrap64 (8 * a1)) then (octet_Put.j0 k a0 a1 ((shr .i64 a0 (wrap64 (8 * a1))) != 0)) else (none))))) = some (r1, r2) := h; clear h; have HC3 := mk_ H; clear H
 go_enter Try.func29, Try.ntmps29
 go_upto_region 1 with (fail)
 go_cut [24] (fun bA wc => ∃ (kq : Nat) (aK : Bool), bA = .bool aK ∧ Aside0 (octet_Put.j0 kq a0 a1 aK = some (r1, r2)) ∧ Aside0 (kq ≤ k) ∧ Aside0 (Below w.heap.size w wc))
 case first =>
  have H := HC3.out; clear HC3
  by_cases c4 : a1 < 1
  ·rw [if_pos c4] at H; have aD : decide (a1 < 1) = true := decide_eq_true c4; clear c4
   (first | rw [aD] | (simp only [i64_w, i32_w]; rw [aD]) | skip)
   have H' := mk_ H; clear H
   go_wp2
   go_meet
   case rel => exact ⟨_, (true), (by first | rfl | (simp; done) | (simp [*]; done)), H', ⟨by first | omega | exact Nat.le_refl _⟩, ⟨bl_ HB⟩⟩
  ·rw [if_neg c4] at H; have aD : decide (a1 < 1) = false := decide_eq_false c4; clear c4
   (first | rw [aD] | (simp only [i64_w, i32_w]; rw [aD]) | skip)
   by_cases c5 : a1 > 7
   ·rw [if_pos c5] at H; have aO : decide (7 < a1) = true := decide_eq_true c5; clear c5; have H' := mk_ H; clear H
    go_wp2
    go_meet
    case rel => exact ⟨_, (true), (by first | rfl | (simp; done) | (simp [*]; done)), H', ⟨by first | omega | exact Nat.le_refl _⟩, ⟨bl_ HB⟩⟩
   ·rw [if_neg c5] at H; have aO : decide (7 < a1) = false := decide_eq_false c5; clear c5
    by_cases c6 : a0 < 0
    ·rw [if_pos c6] at H; have aP : decide (a0 < 0) = true := decide_eq_true c6; clear c6; have H' := mk_ H; clear H
     go_wp2
     go_meet
     case rel => exact ⟨_, (true), (by first | rfl | (simp; done) | (simp [*]; done)), H', ⟨by first | omega | exact Nat.le_refl _⟩, ⟨bl_ HB⟩⟩
    ·rw [if_neg c6] at H; have aP : decide (a0 < 0) = false := decide_eq_false c6; clear c6; obtain ⟨ji7, hji7⟩ : ∃ j_ : Int, (wrap64 (8 * a1)) = j_ := ⟨_, rfl⟩
     replace H : (if 0 ≤ (ji7) then (octet_Put.j0 k a0 a1 ((shr .i64 a0 (ji7)) != 0)) else (none)) = some (r1, r2) := by first | (rw [hji7] at H; exact H) | (simp only [hji7] at H ⊢; exact H)
     have hji7w : (IntKind.i64.wrap (8 * a1)) = ji7 := (i64_w _).trans hji7
     by_cases c8 : 0 ≤ (ji7)
     ·rw [if_pos c8] at H; have aT := eq_true c8; have aU : decide (0 ≤ (ji7)) = true := decide_eq_true c8; clear c8; obtain ⟨ji9, hji9⟩ : ∃ j_ : Int, (shr .i64 a0 (ji7)) = j_ := ⟨_, rfl⟩
      replace H : (octet_Put.j0 k a0 a1 ((ji9) != 0)) = some (r1, r2) := by first | (rw [hji9] at H; exact H) | (simp only [hji9] at H ⊢; exact H)
      have hji9_ : (a0 / 2 ^ min (ji7).toNat 64) = ji9 := hji9; have hji9z : (ji7) ≤ 64 → (a0 / 2 ^ (ji7).toNat) = ji9 := shr_small hji9; have H' := mk_ H; clear H
      go_wp2
      go_meet
      case rel => exact ⟨_, (((ji9) != 0)), (by first | rfl | (simp; done) | (simp only [← hji9] <;> (first | rfl | simp)) | (simp [*]; done)), H', ⟨by first | omega | exact Nat.le_refl _⟩, ⟨bl_ HB⟩⟩
     ·rw [if_neg c8] at H; exact absurd H (by simp)
 case rest =>
  clear HC3; (try clear c2); (try clear p2); (try clear c4); (try clear aD); (try clear c5); (try clear aO); (try clear c6); (try clear aP); (try clear p6); (try clear c8); (try clear aT); (try clear aU); obtain ⟨kq, aK, rfl, HA, HJ2, HB⟩ := hcut
  cases kq with
  | zero => exact absurd HA.out (by simp [octet_Put.j0])
  | succ aL =>
   have H := HA.out; clear HA; simp only [octet_Put.j0] at H
   by_cases aH : aK = true
   ·subst aH
    have H1 : (some ((⟨#[]⟩ : ByteArray), 1)) = some (r1, r2) := by rw [if_pos rfl] at H; exact H
    clear H; have H := H1; clear H1; simp only [Option.some.injEq, Prod.mk.injEq] at H; obtain ⟨rfl, rfl⟩ := H
    go_wp2
    go_ret2
    exact ⟨by first | rfl | (simp [errW_none, errW_some] <;> rfl) | (simp [*, errW_none, errW_some] <;> rfl), bl_ HB⟩
   ·replace aH := Bool.eq_false_iff.mpr aH; subst aH
    have H1 : (if 0 ≤ a1 then (if (a1 : Int).toNat ≤ 281474976710656 then ((some (List.replicate (a1 : Int).toNat 0 : List Int)).bind fun y127 => (octet_Put.l0 aL a0 a1 y127 (y127.length : Int) 0)) else (none)) else (none)) = some (r1, r2) := by rw [if_neg (show ¬ (false = true) by decide)] at H; exact H
    clear H; have H := H1; clear H1
    by_cases aE : 0 ≤ a1
    ·rw [if_pos aE] at H; have bB := eq_true aE; have bC : decide (0 ≤ a1) = true := decide_eq_true aE; clear aE
     by_cases aF : (a1 : Int).toNat ≤ 281474976710656
     ·rw [if_pos aF] at H; have bD := eq_true aF; have bE : decide ((a1 : Int).toNat ≤ 281474976710656) = true := decide_eq_true aF; clear aF; obtain ⟨y127, hy127⟩ : ∃ y_ : List Int, y_ = (List.replicate (a1 : Int).toNat 0) := ⟨_, rfl⟩
      replace H : (octet_Put.l0 aL a0 a1 y127 (y127.length : Int) 0) = some (r1, r2) := by first | (rw [hy127]; with_reducible exact H) | (have H2_ := (Option.bind_some _ _).symm.trans H; rw [hy127]; with_reducible exact H2_) | (have H2_ := (Option.bind_some _ _).symm.trans H; with_reducible exact H2_) | with_reducible exact H | (rw [hy127]; exact H) | exact H
      have aV := mk_ hy127; clear hy127; have H' := mk_ H; clear H
      go_wp2_with (first | ((with_reducible refine gate_dst (N := 26) rfl ?_); refine Kd.R_make (Kd.int .u8) _ 5 rfl (N := 26) rfl 26 _ _ rfl a1 rfl rfl Try.underlying26 (.int .u8 0) 1 info5 rfl (by decide) (by omega) 0 (ok := fun _ => True) (okp := fun _ => True) rfl (fun _ hk => hk) trivial (of_decide_eq_true (by first | (with_reducible assumption) | assumption)) (Nat.le_trans (Nat.mul_le_mul_right _ (of_decide_eq_true (by first | (with_reducible assumption) | assumption) : a1.toNat ≤ 281474976710656)) (by omega)) (Below.refl _ _) (Nat.le_refl _) ?_; intro bI bJ ho14 hb hg_ hnew_; clear hg_ hnew_; (first | rw [← aV.out] at ho14 | (simp only [Int.reduceToNat] at ho14; rw [← aV.out] at ho14)); have n0_ := mk_ (Kd.R_lower ho14 (below_size (bl_ HB))); have n1_ := bs_ HB hb; clear HB; have aW := n0_; have HB := n1_; clear n0_ n1_; clear hb ho14; obtain ⟨bF, aX, eo15⟩ := Kd.R_slice aW.out; subst eo15))
      go_loopg [29] aL (fun kq bG w' => ∃ (aB : List Int) (aA : Int), bG = .int .i64 aA ∧ Aside0 (octet_Put.l0 kq a0 a1 aB (y127.length : Int) aA = some (r1, r2)) ∧ Aside0 (kq ≤ aL) ∧ Aside0 (Kd.R (Kd.int .u8) 5 w' w.heap.size (fun _ => True) (.slice bF y127.length aX) aB) ∧ Aside0 (Below w.heap.size w w'))
      case atStart => exact ⟨(y127), (0), (by first | rfl | (simp; done) | (simp [*]; done)), H', ⟨Nat.le_refl _⟩, ⟨by (with_reducible repeat (first | apply Kd.R_alloc | apply Kd.R_drewN | apply Kd.R_drew)); exact aW.out⟩, ⟨bl_ HB⟩⟩
      case round =>
       clear H'; (try clear c1); (try clear c2); (try clear p2); (try clear c4); (try clear aD); (try clear c5); (try clear aO); (try clear c6); (try clear aP); (try clear p6); (try clear c8); (try clear aT); (try clear aU); (try clear aH); (try clear aE); (try clear bB); (try clear bC); (try clear aF); (try clear bD); (try clear bE); (try clear p2); (try clear p6); obtain ⟨aB, aA, rfl, HA, HK2, aC, HB⟩ := hrel; have aI := (Kd.R_reads' aC.out).1; rw [aI] at aC; (try simp only [aI])
       cases gk with
       | zero => exact absurd HA.out (by simp [octet_Put.l0])
       | succ k2 =>
        have H := HA.out; clear HA; simp only [octet_Put.l0] at H
        by_cases aG : aA < (y127.length : Int)
        ·rw [if_pos aG] at H; have aY : decide (aA < (y127.length : Int)) = true := decide_eq_true aG; clear aG; obtain ⟨ji17, hji17⟩ : ∃ j_ : Int, (wrap64 (8 * (wrap64 ((wrap64 (a1 - 1)) - aA)))) = j_ := ⟨_, rfl⟩
         replace H : (if 0 ≤ (ji17) then (if 0 ≤ aA then (if aA < (aB.length : Int) then (octet_Put.l0 k2 a0 a1 (aB.set (aA : Int).toNat ((shr .i64 a0 (ji17)) % 256)) (y127.length : Int) (wrap64 (aA + 1))) else (none)) else (none)) else (none)) = some (r1, r2) := by first | (rw [hji17] at H; exact H) | (simp only [hji17] at H ⊢; exact H)
         have hji17w : (IntKind.i64.wrap (8 * (wrap64 ((wrap64 (a1 - 1)) - aA)))) = ji17 := (i64_w _).trans hji17
         by_cases aJ : 0 ≤ (ji17)
         ·rw [if_pos aJ] at H; have bK := eq_true aJ; have bL : decide (0 ≤ (ji17)) = true := decide_eq_true aJ; clear aJ; obtain ⟨ji19, hji19⟩ : ∃ j_ : Int, (shr .i64 a0 (ji17)) = j_ := ⟨_, rfl⟩
          replace H : (if 0 ≤ aA then (if aA < (aB.length : Int) then (octet_Put.l0 k2 a0 a1 (aB.set (aA : Int).toNat ((ji19) % 256)) (y127.length : Int) (wrap64 (aA + 1))) else (none)) else (none)) = some (r1, r2) := by first | (rw [hji19] at H; exact H) | (simp only [hji19] at H ⊢; exact H)
          have hji19_ : (a0 / 2 ^ min (ji17).toNat 64) = ji19 := hji19; have hji19z : (ji17) ≤ 64 → (a0 / 2 ^ (ji17).toNat) = ji19 := shr_small hji19
          by_cases aM : 0 ≤ aA
          ·rw [if_pos aM] at H; have bM : decide (0 ≤ aA) = true := decide_eq_true aM; clear aM
           by_cases aN : aA < (aB.length : Int)
           ·rw [if_pos aN] at H; have bN : decide (aA < (aB.length : Int)) = true := decide_eq_true aN; clear aN; obtain ⟨y130, hy130⟩ : ∃ y_ : List Int, y_ = (aB.set (aA : Int).toNat ((ji19) % 256)) := ⟨_, rfl⟩
            replace H : (octet_Put.l0 k2 a0 a1 y130 (y127.length : Int) (wrap64 (aA + 1))) = some (r1, r2) := by first | (rw [hy130]; with_reducible exact H) | (have H2_ := (Option.bind_some _ _).symm.trans H; rw [hy130]; with_reducible exact H2_) | (have H2_ := (Option.bind_some _ _).symm.trans H; with_reducible exact H2_) | with_reducible exact H | (rw [hy130]; exact H) | exact H
            have bH := mk_ hy130; clear hy130; have H' := mk_ H; clear H; have aQ : 0 ≤ (aA : Int) := of_decide_eq_true (by first | (with_reducible assumption) | assumption); have aR : (aA : Int) < ((aB.length : Int) : Int) := of_decide_eq_true (by first | (with_reducible assumption) | assumption); obtain ⟨go22, bO, eo22, aZ, gl22, cl22, HG22⟩ := Kd.R_form aC.out (by omega)
            (first | cases eo22 | (injection eo22 with ea_ en_ ec_; (first | subst ea_ | (injection ea_ with ea_; subst ea_)); subst ec_; clear en_))
            have GB22 := mk_ aZ; have GG22 := mk_ HG22; clear aZ gl22 HG22; obtain ⟨bP, hf22_0⟩ := Kd.R_celln 0 aC.out (aA : Int) aQ aR; replace aQ := eq_true aQ; replace aR := eq_true aR; have HP23 := Kd.R_putg aC.out (aA : Int) ((ji19) % 256)
            go_wp2_with (first | ((with_reducible refine gate_store (t := 5) (p := 42) rfl ?_); refine store_event (t := 5) (p := 42) (v := ?vo_w24) (w1 := (wr.setCell ⟨go22, (aA : Int).toNat, none⟩ (.int .u8 ((ji19) % 256)))) ?hg ?ho ?hn ?hr ?_; (case ho => rfl); (case hg => rfl); (case hn => rfl); (case hr => first | (go_simp; done) | (go_simp; rfl)); intro aS hw; have hg : wr.grownBy aS (some go22) := (by rw [hw]; exact HP23.2); have hp_ : Kd.R (Kd.int .u8) 5 aS w.heap.size (fun _ => True) (.slice (some ⟨go22, 0, none⟩) aB.length aX) y130 := (by rw [hw, bH.out]; exact HP23.1); clear HP23; have n0_ := mk_ (hp_); have n1_ := mk_ ((by rw [hw]; exact below_set (HB.out) GB22.out : Below w.heap.size w aS)); clear aC; clear HB; have aC := n0_; have HB := n1_; clear n0_ n1_; clear hg hw hp_))
            (try simp only [← aI])
            go_roundg k2
            case measure => have := HJ2.out; have := HK2.out; omega
            case rel => exact ⟨(y130), (wrap64 (aA + 1)), (by first | rfl | (simp; done) | (simp [*]; done)), H', ⟨by have := HJ2.out; have := HK2.out; omega⟩, ⟨by (try simp only [aI]); (with_reducible repeat (first | apply Kd.R_alloc | apply Kd.R_drewN | apply Kd.R_drew)); exact aC.out⟩, ⟨bl_ HB⟩⟩
           ·rw [if_neg aN] at H; exact absurd H (by simp)
          ·rw [if_neg aM] at H; exact absurd H (by simp)
         ·rw [if_neg aJ] at H; exact absurd H (by simp)
        ·rw [if_neg aG] at H; have aY : decide (aA < (y127.length : Int)) = false := decide_eq_false aG
         try have c16b0_6_2 : decide (aA < (aB.length : Int)) = false := by rw [← aI]; exact aY
         clear aG; simp only [Option.some.injEq, Prod.mk.injEq] at H; obtain ⟨rfl, rfl⟩ := H; have hcv25 := own_string (P := Try.prog) Try.underlying26 Try.underlying5 Try.underlying9 (Kd.own_of_R aC.out)
         go_wp2
         go_ret2
         exact ⟨by first | rfl | (simp [errW_none, errW_some] <;> rfl) | (simp [*, errW_none, errW_some] <;> rfl), bl_ HB⟩
     ·rw [if_neg aF] at H; exact absurd H (by simp)
    ·rw [if_neg aE] at H; exact absurd H (by simp)

/-! ### ipfix_put: function 31 -/
def ipfix_put.f (k : Nat) (a0 : Int) (a1 : Int) : Option (ByteArray) := (octet_Put.f k a0 a1).bind fun bt131 => (some bt131.1)
theorem ipfix_put.mono : ∀ a0 a1 k, LeO (ipfix_put.f k a0 a1) (ipfix_put.f (k + 1) a0 a1) := by
  intro a0 a1 k
  unfold ipfix_put.f
  repeat' first
      | (with_reducible exact octet_Put.mono _ _ _)
      | (with_reducible exact LeO.refl _)
      | (with_reducible exact LeO.none _)
      | (with_reducible refine LeO.ite ?_ ?_)
      | (with_reducible refine LeO.bind ?_ (fun _ => ?_))
      | exact octet_Put.mono _ _ _
      | exact LeO.none _
      | refine LeO.ite ?_ ?_
      | refine LeO.bind ?_ (fun _ => ?_)
set_option maxHeartbeats 80000000 in
set_option maxRecDepth 100000 in
theorem ipfix_put.calls (k : Nat) (a0 : Int) (a1 : Int) (r : ByteArray) (w : World) (h : ipfix_put.f k a0 a1 = some r) :
    Calls Try.prog 31 #[.int .i64 a0, .int .i64 a1] w fun e w' => e = .returned (.string r) ∧ Below w.heap.size w w' := by
 have HB := mk_ (Below.refl w.heap.size w); have H : ((octet_Put.f k a0 a1).bind fun bt131 => (some bt131.1)) = some r := h; clear h; replace H := Option.bind_eq_some_iff.mp H; obtain ⟨⟨aA, aC⟩, aB, H⟩ := H; replace H : (some aA) = some r := H; have A3 := mk_ aB; clear aB; obtain rfl := Option.some.inj H
 go_enter Try.func31, Try.ntmps31
 go_wp2_with (first | ((with_reducible refine gate_callee (f := 29) rfl ?_); refine goesL_ (some 10) rfl rfl Try.func29 (by kernel_rfl) rfl #[.int .i64 a0, .int .i64 a1] rfl (by (try simp only [List.map_toArray, List.map_cons, List.map_nil]); first | done | rfl | (simp only [List.length_drop, List.length_take]; rfl)) ?_; (with_reducible refine (octet_Put.calls k a0 a1 aA aC _ A3.out).mono ?_); rintro e w4 ⟨rfl, hb⟩; refine ⟨_, rfl, ?_⟩; have n0_ := bs_ HB hb; clear HB; have HB := n0_; clear n0_; (try clear hb); (try clear hb2); (try clear hk); (try clear hi)))
 go_ret; exact ⟨by first | rfl | (simp [errW_none, errW_some] <;> rfl) | (simp [*, errW_none, errW_some] <;> rfl), bl_ HB⟩

/-! ### strings_Builder_String: function 33 -/
def strings_Builder_String.f (s0_0 : ByteArray) (s0_1 : Bool) : Option (ByteArray × ByteArray × Bool) := some (s0_0, s0_0, s0_1)
set_option maxHeartbeats 80000000 in
set_option maxRecDepth 100000 in
theorem strings_Builder_String.calls (g : Nat) (s0_0 : ByteArray) (s0_1 : Bool) (r1 : ByteArray) (r2 : ByteArray) (r3 : Bool) (w0 w : World) (hI : Built.IsBld w0 w g s0_0 s0_1) (hB : Below w0.heap.size w0 w) (h : strings_Builder_String.f s0_0 s0_1 = some (r1, r2, r3)) :
    Calls Try.prog 33 #[.pointer (some ⟨g, 0, none⟩)] w fun e w' => e = .returned (.string r1) ∧ Built.IsBld w0 w' g r2 r3 ∧ Below w0.heap.size w0 w' ∧ Built.KeepT w w' g := by
 unfold strings_Builder_String.f at h
 simp only [Option.some.injEq, Prod.mk.injEq] at h; obtain ⟨rfl, rfl, rfl⟩ := h; exact Built.toString_ g s0_0 s0_1 w0 w hI hB

