/- The functions that a law uses, each as a plain function, with the proof that a call of the Go function comes to its answer. Condition of each: the arguments read as the data that it names, and the plain function has an answer. Written by a program of this session (standin.py). -/
import Derived.Test.YtjnbnkddbjeecaaDoorPHashWithinx0
import Derived.Test.YtjnbnkddbjeecaaDoorPHashWithinx1
import Derived.Lib.SliceRun
import Derived.Test.YtjnbnkddbjeecaaDoorTabs
namespace Go.Proofs.YtjnbnkddbjeecaaDoor.PHashWithin
open Go.RowKit Go.Proofs.YtjnbnkddbjeecaaDoorW.PrintWords Go.Proofs.YtjnbnkddbjeecaaDoorW.PrintLast Go.Proofs.YtjnbnkddbjeecaaDoorW.PrintMore Go.Proofs.YtjnbnkddbjeecaaDoor.Short Go.Proofs.YtjnbnkddbjeecaaDoor.Tabs
attribute [local go_sem] max2_int min2_int max_two min_two max_three min_three max_four min_four   -- for this text's walks alone
set_option linter.unusedVariables false
set_option linter.unusedSimpArgs false

/-! ### rillmeterlaw02_HashWithin: function 4 -/
def rillmeterlaw02_HashWithin.j0 : Nat → Int → ByteArray → Bool → Option (Bool)
  | 0, _, _, _ => none
  | k + 1, x0, x1, x63 => if x63 = true then (some false) else ((rillmeterref01_Of.f x0).bind fun t129 => ((hash_Sum.f k t129 x1).bind fun t130 => ((hash_Sum.f k x0 x1).bind fun t131 => (if t130 = t131 then ((hash_Sum.f k x0 x1).bind fun t132 => (if t132 < 2305843009213693951 then ((rillmeterlaw02_awake.f k).bind fun t133 => (some t133)) else (some false))) else (some false)))))
def rillmeterlaw02_HashWithin.f (k : Nat) (a0 : Int) (a1 : ByteArray) (a2 : Int) (a3 : Int) : Option (Bool) := if (a1.size : Int) > 1024 then ((rillmeterlaw02_awake.f k).bind fun t125 => (some t125)) else ((hash_Cell.f k a0 a1 a2).bind fun t126 => ((hash_Sign.f k a0 a1).bind fun t127 => ((hash_Level.f k a0 a1 a3).bind fun t128 => (if t126 < 0 then (rillmeterlaw02_HashWithin.j0 k a0 a1 true) else (if a2 > 0 then (if t126 ≥ a2 then (rillmeterlaw02_HashWithin.j0 k a0 a1 true) else (if a2 < 1 then (if t126 = 0 then (if t127 = 1 then (if t128 < 0 then (rillmeterlaw02_HashWithin.j0 k a0 a1 true) else (rillmeterlaw02_HashWithin.j0 k a0 a1 (decide (t128 > (mx a3 0))))) else (if t127 = (-1) then (if t128 < 0 then (rillmeterlaw02_HashWithin.j0 k a0 a1 true) else (rillmeterlaw02_HashWithin.j0 k a0 a1 (decide (t128 > (mx a3 0))))) else (rillmeterlaw02_HashWithin.j0 k a0 a1 true))) else (rillmeterlaw02_HashWithin.j0 k a0 a1 true)) else (if t127 = 1 then (if t128 < 0 then (rillmeterlaw02_HashWithin.j0 k a0 a1 true) else (rillmeterlaw02_HashWithin.j0 k a0 a1 (decide (t128 > (mx a3 0))))) else (if t127 = (-1) then (if t128 < 0 then (rillmeterlaw02_HashWithin.j0 k a0 a1 true) else (rillmeterlaw02_HashWithin.j0 k a0 a1 (decide (t128 > (mx a3 0))))) else (rillmeterlaw02_HashWithin.j0 k a0 a1 true))))) else (if a2 < 1 then (if t126 = 0 then (if t127 = 1 then (if t128 < 0 then (rillmeterlaw02_HashWithin.j0 k a0 a1 true) else (rillmeterlaw02_HashWithin.j0 k a0 a1 (decide (t128 > (mx a3 0))))) else (if t127 = (-1) then (if t128 < 0 then (rillmeterlaw02_HashWithin.j0 k a0 a1 true) else (rillmeterlaw02_HashWithin.j0 k a0 a1 (decide (t128 > (mx a3 0))))) else (rillmeterlaw02_HashWithin.j0 k a0 a1 true))) else (rillmeterlaw02_HashWithin.j0 k a0 a1 true)) else (if t127 = 1 then (if t128 < 0 then (rillmeterlaw02_HashWithin.j0 k a0 a1 true) else (rillmeterlaw02_HashWithin.j0 k a0 a1 (decide (t128 > (mx a3 0))))) else (if t127 = (-1) then (if t128 < 0 then (rillmeterlaw02_HashWithin.j0 k a0 a1 true) else (rillmeterlaw02_HashWithin.j0 k a0 a1 (decide (t128 > (mx a3 0))))) else (rillmeterlaw02_HashWithin.j0 k a0 a1 true)))))))))
theorem rillmeterlaw02_HashWithin.mono_l : ∀ k, (∀ y0 y1 y2, LeO (rillmeterlaw02_HashWithin.j0 k y0 y1 y2) (rillmeterlaw02_HashWithin.j0 (k + 1) y0 y1 y2))
  | 0 => fun _ _ _ r h => by simp [rillmeterlaw02_HashWithin.j0] at h
  | k + 1 => by
    have ih0 := rillmeterlaw02_HashWithin.mono_l k
    · intro y0 y1 y2
      unfold rillmeterlaw02_HashWithin.j0
      repeat' first
      | (with_reducible exact ih0 _ _ _)
      | (with_reducible exact hash_Cell.mono _ _ _ _)
      | (with_reducible exact hash_Level.mono _ _ _ _)
      | (with_reducible exact hash_Sign.mono _ _ _)
      | (with_reducible exact hash_Sum.mono _ _ _)
      | (with_reducible exact rillmeterlaw02_awake.mono _)
      | (with_reducible exact LeO.refl _)
      | (with_reducible exact LeO.none _)
      | (with_reducible refine LeO.ite ?_ ?_)
      | (with_reducible refine LeO.bind ?_ (fun _ => ?_))
      | exact ih0 _ _ _
      | exact hash_Cell.mono _ _ _ _
      | exact hash_Level.mono _ _ _ _
      | exact hash_Sign.mono _ _ _
      | exact hash_Sum.mono _ _ _
      | exact rillmeterlaw02_awake.mono _
      | exact LeO.none _
      | refine LeO.ite ?_ ?_
      | refine LeO.bind ?_ (fun _ => ?_)
theorem rillmeterlaw02_HashWithin.mono : ∀ a0 a1 a2 a3 k, LeO (rillmeterlaw02_HashWithin.f k a0 a1 a2 a3) (rillmeterlaw02_HashWithin.f (k + 1) a0 a1 a2 a3) := by
  intro a0 a1 a2 a3 k
  have ih0 := rillmeterlaw02_HashWithin.mono_l k
  unfold rillmeterlaw02_HashWithin.f
  repeat' first
      | (with_reducible exact ih0 _ _ _)
      | (with_reducible exact hash_Cell.mono _ _ _ _)
      | (with_reducible exact hash_Level.mono _ _ _ _)
      | (with_reducible exact hash_Sign.mono _ _ _)
      | (with_reducible exact hash_Sum.mono _ _ _)
      | (with_reducible exact rillmeterlaw02_awake.mono _)
      | (with_reducible exact LeO.refl _)
      | (with_reducible exact LeO.none _)
      | (with_reducible refine LeO.ite ?_ ?_)
      | (with_reducible refine LeO.bind ?_ (fun _ => ?_))
      | exact ih0 _ _ _
      | exact hash_Cell.mono _ _ _ _
      | exact hash_Level.mono _ _ _ _
      | exact hash_Sign.mono _ _ _
      | exact hash_Sum.mono _ _ _
      | exact rillmeterlaw02_awake.mono _
      | exact LeO.none _
      | refine LeO.ite ?_ ?_
      | refine LeO.bind ?_ (fun _ => ?_)
set_option maxHeartbeats 8000000 in
set_option maxRecDepth 100000 in
theorem rillmeterlaw02_HashWithin.calls (k : Nat) (a0 : Int) (a1 : ByteArray) (a2 : Int) (a3 : Int) (r : Bool) (w : World) (h : rillmeterlaw02_HashWithin.f k a0 a1 a2 a3 = some r) (hrt : Aside0 (r = true)) (HT0 : Aside0 (Tab w)) :
    Calls Tryd.prog 4 #[.int .u64 a0, .string a1, .int .i64 a2, .int .i64 a3] w fun e w' => e = .returned (.bool r) ∧ Below w.heap.size w w' := by
  have HB := Aside0.mk (Below.refl w.heap.size w)
  have H : (if (a1.size : Int) > 1024 then ((rillmeterlaw02_awake.f k).bind fun t125 => (some t125)) else ((hash_Cell.f k a0 a1 a2).bind fun t126 => ((hash_Sign.f k a0 a1).bind fun t127 => ((hash_Level.f k a0 a1 a3).bind fun t128 => (if t126 < 0 then (rillmeterlaw02_HashWithin.j0 k a0 a1 true) else (if a2 > 0 then (if t126 ≥ a2 then (rillmeterlaw02_HashWithin.j0 k a0 a1 true) else (if a2 < 1 then (if t126 = 0 then (if t127 = 1 then (if t128 < 0 then (rillmeterlaw02_HashWithin.j0 k a0 a1 true) else (rillmeterlaw02_HashWithin.j0 k a0 a1 (decide (t128 > (mx a3 0))))) else (if t127 = (-1) then (if t128 < 0 then (rillmeterlaw02_HashWithin.j0 k a0 a1 true) else (rillmeterlaw02_HashWithin.j0 k a0 a1 (decide (t128 > (mx a3 0))))) else (rillmeterlaw02_HashWithin.j0 k a0 a1 true))) else (rillmeterlaw02_HashWithin.j0 k a0 a1 true)) else (if t127 = 1 then (if t128 < 0 then (rillmeterlaw02_HashWithin.j0 k a0 a1 true) else (rillmeterlaw02_HashWithin.j0 k a0 a1 (decide (t128 > (mx a3 0))))) else (if t127 = (-1) then (if t128 < 0 then (rillmeterlaw02_HashWithin.j0 k a0 a1 true) else (rillmeterlaw02_HashWithin.j0 k a0 a1 (decide (t128 > (mx a3 0))))) else (rillmeterlaw02_HashWithin.j0 k a0 a1 true))))) else (if a2 < 1 then (if t126 = 0 then (if t127 = 1 then (if t128 < 0 then (rillmeterlaw02_HashWithin.j0 k a0 a1 true) else (rillmeterlaw02_HashWithin.j0 k a0 a1 (decide (t128 > (mx a3 0))))) else (if t127 = (-1) then (if t128 < 0 then (rillmeterlaw02_HashWithin.j0 k a0 a1 true) else (rillmeterlaw02_HashWithin.j0 k a0 a1 (decide (t128 > (mx a3 0))))) else (rillmeterlaw02_HashWithin.j0 k a0 a1 true))) else (rillmeterlaw02_HashWithin.j0 k a0 a1 true)) else (if t127 = 1 then (if t128 < 0 then (rillmeterlaw02_HashWithin.j0 k a0 a1 true) else (rillmeterlaw02_HashWithin.j0 k a0 a1 (decide (t128 > (mx a3 0))))) else (if t127 = (-1) then (if t128 < 0 then (rillmeterlaw02_HashWithin.j0 k a0 a1 true) else (rillmeterlaw02_HashWithin.j0 k a0 a1 (decide (t128 > (mx a3 0))))) else (rillmeterlaw02_HashWithin.j0 k a0 a1 true)))))))))) = some r := h
  clear h
  by_cases c5 : (a1.size : Int) > 1024
  · rw [if_pos c5] at H
    have c5b0 : decide (1024 < (a1.size : Int)) = true := decide_eq_true c5
    have c5b1 : decide (1024 < a1.size) = true := decide_eq_true (by omega)
    clear c5
    replace H := Option.bind_eq_some_iff.mp H
    obtain ⟨t125, A60, H⟩ := H
    replace H : (some t125) = some r := H
    have A6 := Aside0.mk A60
    clear A60
    obtain rfl := Option.some.inj H
    go_enter Tryd.func4, Tryd.ntmps4
    go_wp2_with (first | ((with_reducible refine gate_callee (f := 5) rfl ?_); refine goesL_ (some 15) rfl rfl Tryd.func5 (by kernel_rfl) rfl #[] rfl (by (try simp only [List.map_toArray, List.map_cons, List.map_nil]); first | done | rfl | (simp only [List.length_drop, List.length_take]; rfl)) ?_; (with_reducible refine (rillmeterlaw02_awake.calls k  t125 _ A6.out).mono ?_); rintro e w' ⟨rfl, ⟨nd, rfl⟩⟩; refine ⟨_, rfl, ?_⟩))
    go_ret
    exact ⟨by first | rfl | (simp [errW_none, errW_some] <;> rfl) | (simp [*, errW_none, errW_some] <;> rfl), by repeat (first | (with_reducible first | exact HB.out | apply below_alloc | apply pw_below_drewN | apply below_drew1) | exact HB.out)⟩
  · rw [if_neg c5] at H
    have c5b0 : decide (1024 < (a1.size : Int)) = false := decide_eq_false c5
    have c5b1 : decide (1024 < a1.size) = false := decide_eq_false (by omega)
    clear c5
    replace H := Option.bind_eq_some_iff.mp H
    obtain ⟨t126, A70, H⟩ := H
    replace H : ((hash_Sign.f k a0 a1).bind fun t127 => ((hash_Level.f k a0 a1 a3).bind fun t128 => (if t126 < 0 then (rillmeterlaw02_HashWithin.j0 k a0 a1 true) else (if a2 > 0 then (if t126 ≥ a2 then (rillmeterlaw02_HashWithin.j0 k a0 a1 true) else (if a2 < 1 then (if t126 = 0 then (if t127 = 1 then (if t128 < 0 then (rillmeterlaw02_HashWithin.j0 k a0 a1 true) else (rillmeterlaw02_HashWithin.j0 k a0 a1 (decide (t128 > (mx a3 0))))) else (if t127 = (-1) then (if t128 < 0 then (rillmeterlaw02_HashWithin.j0 k a0 a1 true) else (rillmeterlaw02_HashWithin.j0 k a0 a1 (decide (t128 > (mx a3 0))))) else (rillmeterlaw02_HashWithin.j0 k a0 a1 true))) else (rillmeterlaw02_HashWithin.j0 k a0 a1 true)) else (if t127 = 1 then (if t128 < 0 then (rillmeterlaw02_HashWithin.j0 k a0 a1 true) else (rillmeterlaw02_HashWithin.j0 k a0 a1 (decide (t128 > (mx a3 0))))) else (if t127 = (-1) then (if t128 < 0 then (rillmeterlaw02_HashWithin.j0 k a0 a1 true) else (rillmeterlaw02_HashWithin.j0 k a0 a1 (decide (t128 > (mx a3 0))))) else (rillmeterlaw02_HashWithin.j0 k a0 a1 true))))) else (if a2 < 1 then (if t126 = 0 then (if t127 = 1 then (if t128 < 0 then (rillmeterlaw02_HashWithin.j0 k a0 a1 true) else (rillmeterlaw02_HashWithin.j0 k a0 a1 (decide (t128 > (mx a3 0))))) else (if t127 = (-1) then (if t128 < 0 then (rillmeterlaw02_HashWithin.j0 k a0 a1 true) else (rillmeterlaw02_HashWithin.j0 k a0 a1 (decide (t128 > (mx a3 0))))) else (rillmeterlaw02_HashWithin.j0 k a0 a1 true))) else (rillmeterlaw02_HashWithin.j0 k a0 a1 true)) else (if t127 = 1 then (if t128 < 0 then (rillmeterlaw02_HashWithin.j0 k a0 a1 true) else (rillmeterlaw02_HashWithin.j0 k a0 a1 (decide (t128 > (mx a3 0))))) else (if t127 = (-1) then (if t128 < 0 then (rillmeterlaw02_HashWithin.j0 k a0 a1 true) else (rillmeterlaw02_HashWithin.j0 k a0 a1 (decide (t128 > (mx a3 0))))) else (rillmeterlaw02_HashWithin.j0 k a0 a1 true)))))))) = some r := H
    have A7 := Aside0.mk A70
    clear A70
    replace H := Option.bind_eq_some_iff.mp H
    obtain ⟨t127, A80, H⟩ := H
    replace H : ((hash_Level.f k a0 a1 a3).bind fun t128 => (if t126 < 0 then (rillmeterlaw02_HashWithin.j0 k a0 a1 true) else (if a2 > 0 then (if t126 ≥ a2 then (rillmeterlaw02_HashWithin.j0 k a0 a1 true) else (if a2 < 1 then (if t126 = 0 then (if t127 = 1 then (if t128 < 0 then (rillmeterlaw02_HashWithin.j0 k a0 a1 true) else (rillmeterlaw02_HashWithin.j0 k a0 a1 (decide (t128 > (mx a3 0))))) else (if t127 = (-1) then (if t128 < 0 then (rillmeterlaw02_HashWithin.j0 k a0 a1 true) else (rillmeterlaw02_HashWithin.j0 k a0 a1 (decide (t128 > (mx a3 0))))) else (rillmeterlaw02_HashWithin.j0 k a0 a1 true))) else (rillmeterlaw02_HashWithin.j0 k a0 a1 true)) else (if t127 = 1 then (if t128 < 0 then (rillmeterlaw02_HashWithin.j0 k a0 a1 true) else (rillmeterlaw02_HashWithin.j0 k a0 a1 (decide (t128 > (mx a3 0))))) else (if t127 = (-1) then (if t128 < 0 then (rillmeterlaw02_HashWithin.j0 k a0 a1 true) else (rillmeterlaw02_HashWithin.j0 k a0 a1 (decide (t128 > (mx a3 0))))) else (rillmeterlaw02_HashWithin.j0 k a0 a1 true))))) else (if a2 < 1 then (if t126 = 0 then (if t127 = 1 then (if t128 < 0 then (rillmeterlaw02_HashWithin.j0 k a0 a1 true) else (rillmeterlaw02_HashWithin.j0 k a0 a1 (decide (t128 > (mx a3 0))))) else (if t127 = (-1) then (if t128 < 0 then (rillmeterlaw02_HashWithin.j0 k a0 a1 true) else (rillmeterlaw02_HashWithin.j0 k a0 a1 (decide (t128 > (mx a3 0))))) else (rillmeterlaw02_HashWithin.j0 k a0 a1 true))) else (rillmeterlaw02_HashWithin.j0 k a0 a1 true)) else (if t127 = 1 then (if t128 < 0 then (rillmeterlaw02_HashWithin.j0 k a0 a1 true) else (rillmeterlaw02_HashWithin.j0 k a0 a1 (decide (t128 > (mx a3 0))))) else (if t127 = (-1) then (if t128 < 0 then (rillmeterlaw02_HashWithin.j0 k a0 a1 true) else (rillmeterlaw02_HashWithin.j0 k a0 a1 (decide (t128 > (mx a3 0))))) else (rillmeterlaw02_HashWithin.j0 k a0 a1 true))))))) = some r := H
    have A8 := Aside0.mk A80
    clear A80
    replace H := Option.bind_eq_some_iff.mp H
    obtain ⟨t128, A90, H⟩ := H
    replace H : (if t126 < 0 then (rillmeterlaw02_HashWithin.j0 k a0 a1 true) else (if a2 > 0 then (if t126 ≥ a2 then (rillmeterlaw02_HashWithin.j0 k a0 a1 true) else (if a2 < 1 then (if t126 = 0 then (if t127 = 1 then (if t128 < 0 then (rillmeterlaw02_HashWithin.j0 k a0 a1 true) else (rillmeterlaw02_HashWithin.j0 k a0 a1 (decide (t128 > (mx a3 0))))) else (if t127 = (-1) then (if t128 < 0 then (rillmeterlaw02_HashWithin.j0 k a0 a1 true) else (rillmeterlaw02_HashWithin.j0 k a0 a1 (decide (t128 > (mx a3 0))))) else (rillmeterlaw02_HashWithin.j0 k a0 a1 true))) else (rillmeterlaw02_HashWithin.j0 k a0 a1 true)) else (if t127 = 1 then (if t128 < 0 then (rillmeterlaw02_HashWithin.j0 k a0 a1 true) else (rillmeterlaw02_HashWithin.j0 k a0 a1 (decide (t128 > (mx a3 0))))) else (if t127 = (-1) then (if t128 < 0 then (rillmeterlaw02_HashWithin.j0 k a0 a1 true) else (rillmeterlaw02_HashWithin.j0 k a0 a1 (decide (t128 > (mx a3 0))))) else (rillmeterlaw02_HashWithin.j0 k a0 a1 true))))) else (if a2 < 1 then (if t126 = 0 then (if t127 = 1 then (if t128 < 0 then (rillmeterlaw02_HashWithin.j0 k a0 a1 true) else (rillmeterlaw02_HashWithin.j0 k a0 a1 (decide (t128 > (mx a3 0))))) else (if t127 = (-1) then (if t128 < 0 then (rillmeterlaw02_HashWithin.j0 k a0 a1 true) else (rillmeterlaw02_HashWithin.j0 k a0 a1 (decide (t128 > (mx a3 0))))) else (rillmeterlaw02_HashWithin.j0 k a0 a1 true))) else (rillmeterlaw02_HashWithin.j0 k a0 a1 true)) else (if t127 = 1 then (if t128 < 0 then (rillmeterlaw02_HashWithin.j0 k a0 a1 true) else (rillmeterlaw02_HashWithin.j0 k a0 a1 (decide (t128 > (mx a3 0))))) else (if t127 = (-1) then (if t128 < 0 then (rillmeterlaw02_HashWithin.j0 k a0 a1 true) else (rillmeterlaw02_HashWithin.j0 k a0 a1 (decide (t128 > (mx a3 0))))) else (rillmeterlaw02_HashWithin.j0 k a0 a1 true)))))) = some r := H
    have A9 := Aside0.mk A90
    clear A90
    have HC10 := Aside0.mk H
    clear H
    go_enter Tryd.func4, Tryd.ntmps4
    go_upto_region 4 with (first | ((with_reducible refine gate_callee (f := 7) rfl ?_); refine goesL_ (some 19) rfl rfl Tryd.func7 (by kernel_rfl) rfl #[.int .u64 a0, .string a1, .int .i64 a2] rfl (by (try simp only [List.map_toArray, List.map_cons, List.map_nil]); first | done | rfl | (simp only [List.length_drop, List.length_take]; rfl)) ?_; (with_reducible refine (hash_Cell.calls k a0 a1 a2 t126 _ A7.out).mono ?_); rintro e w' ⟨rfl, ⟨nd, rfl⟩⟩; refine ⟨_, rfl, ?_⟩) | ((with_reducible refine gate_callee (f := 8) rfl ?_); refine goesL_ (some 22) rfl rfl Tryd.func8 (by kernel_rfl) rfl #[.int .u64 a0, .string a1] rfl (by (try simp only [List.map_toArray, List.map_cons, List.map_nil]); first | done | rfl | (simp only [List.length_drop, List.length_take]; rfl)) ?_; (with_reducible refine (hash_Sign.calls k a0 a1 t127 _ A8.out).mono ?_); rintro e w' ⟨rfl, ⟨nd, rfl⟩⟩; refine ⟨_, rfl, ?_⟩) | ((with_reducible refine gate_callee (f := 6) rfl ?_); refine goesL_ (some 26) rfl rfl Tryd.func6 (by kernel_rfl) rfl #[.int .u64 a0, .string a1, .int .i64 a3] rfl (by (try simp only [List.map_toArray, List.map_cons, List.map_nil]); first | done | rfl | (simp only [List.length_drop, List.length_take]; rfl)) ?_; (with_reducible refine (hash_Level.calls k a0 a1 a3 t128 _ A9.out ⟨tb_ HT0 HB⟩).mono ?_); rintro e w11 ⟨rfl, hb⟩; refine ⟨_, rfl, ?_⟩; have n0_ := Aside0.mk (below_step (by repeat (first | (with_reducible first | exact HB.out | apply below_alloc | apply pw_below_drewN | apply below_drew1) | exact HB.out)) hb); clear HB; have HB := n0_; clear n0_; (try clear hb); (try clear hb2); (try clear hk); (try clear hi)))
    (try simp only [Act.put, List.setIfInBounds_toArray, List.set_cons_zero, List.set_cons_succ])
    go_cut [63] (fun v63 wc => ∃ (kq : Nat) (x63_9 : Bool), v63 = .bool x63_9 ∧ Aside0 (rillmeterlaw02_HashWithin.j0 kq a0 a1 x63_9 = some r) ∧ Aside0 (kq ≤ k) ∧ Aside0 (Below w.heap.size w wc))
    case first =>
      have H := HC10.out
      clear HC10
      by_cases c12 : t126 < 0
      · rw [if_pos c12] at H
        have c12b0 : decide (t126 < 0) = true := decide_eq_true c12
        clear c12
        (first | rw [c12b0] | (simp only [i64_w, i32_w]; rw [c12b0]) | skip)
        have H' := Aside0.mk H
        clear H
        go_wp2
        go_meet
        case rel => exact ⟨_, (true), (by first | rfl | (simp; done) | (simp [*]; done)), H', ⟨by first | omega | exact Nat.le_refl _⟩, ⟨by repeat (first | (with_reducible first | exact HB.out | apply below_alloc | apply pw_below_drewN | apply below_drew1) | exact HB.out)⟩⟩
      · rw [if_neg c12] at H
        have c12b0 : decide (t126 < 0) = false := decide_eq_false c12
        clear c12
        (first | rw [c12b0] | (simp only [i64_w, i32_w]; rw [c12b0]) | skip)
        by_cases c13 : a2 > 0
        · rw [if_pos c13] at H
          have c13b0 : decide (0 < a2) = true := decide_eq_true c13
          clear c13
          by_cases c14 : t126 ≥ a2
          · rw [if_pos c14] at H
            have c14b0 : decide (a2 ≤ t126) = true := decide_eq_true c14
            clear c14
            have H' := Aside0.mk H
            clear H
            go_wp2
            go_meet
            case rel => exact ⟨_, (true), (by first | rfl | (simp; done) | (simp [*]; done)), H', ⟨by first | omega | exact Nat.le_refl _⟩, ⟨by repeat (first | (with_reducible first | exact HB.out | apply below_alloc | apply pw_below_drewN | apply below_drew1) | exact HB.out)⟩⟩
          · rw [if_neg c14] at H
            have c14b0 : decide (a2 ≤ t126) = false := decide_eq_false c14
            clear c14
            by_cases c15 : a2 < 1
            · rw [if_pos c15] at H
              have c15b0 : decide (a2 < 1) = true := decide_eq_true c15
              clear c15
              by_cases c16 : t126 = 0
              · rw [if_pos c16] at H
                have c16b0 : (t126 == 0) = true := beq_iff_eq.mpr c16
                have c16b1 : (t126 != 0) = false := bne_eq_false_iff_eq.mpr c16
                clear c16
                by_cases c17 : t127 = 1
                · rw [if_pos c17] at H
                  have c17b0 : (t127 == 1) = true := beq_iff_eq.mpr c17
                  have c17b1 : (t127 != 1) = false := bne_eq_false_iff_eq.mpr c17
                  clear c17
                  by_cases c18 : t128 < 0
                  · rw [if_pos c18] at H
                    have c18b0 : decide (t128 < 0) = true := decide_eq_true c18
                    clear c18
                    have H' := Aside0.mk H
                    clear H
                    go_wp2
                    go_meet
                    case rel => exact ⟨_, (true), (by first | rfl | (simp; done) | (simp [*]; done)), H', ⟨by first | omega | exact Nat.le_refl _⟩, ⟨by repeat (first | (with_reducible first | exact HB.out | apply below_alloc | apply pw_below_drewN | apply below_drew1) | exact HB.out)⟩⟩
                  · rw [if_neg c18] at H
                    have c18b0 : decide (t128 < 0) = false := decide_eq_false c18
                    clear c18
                    obtain ⟨ji19, hji19⟩ : ∃ j_ : Int, (mx a3 0) = j_ := ⟨_, rfl⟩
                    replace H : (rillmeterlaw02_HashWithin.j0 k a0 a1 (decide (t128 > (ji19)))) = some r := by first | (rw [hji19] at H; exact H) | (simp only [hji19] at H ⊢; exact H)
                    (try (have hji19l : 0 ≤ ji19 := by (rw [← hji19]; unfold mx; (repeat' split) <;> omega)))
                    (try (have hji19m : 0 ≤ ji19 := by omega))
                    have hji19_ : (if a3 < 0 then 0 else a3) = ji19 := hji19
                    have H' := Aside0.mk H
                    clear H
                    go_wp2
                    go_meet
                    case rel => exact ⟨_, (decide (t128 > (ji19))), (by first | rfl | (simp; done) | (simp only [← hji19] <;> (first | rfl | simp)) | (simp [*]; done)), H', ⟨by first | omega | exact Nat.le_refl _⟩, ⟨by repeat (first | (with_reducible first | exact HB.out | apply below_alloc | apply pw_below_drewN | apply below_drew1) | exact HB.out)⟩⟩
                · rw [if_neg c17] at H
                  have c17b0 : (t127 == 1) = false := beq_eq_false_iff_ne.mpr c17
                  have c17b1 : (t127 != 1) = true := bne_iff_ne.mpr c17
                  by_cases c20 : t127 = (-1)
                  · rw [if_pos c20] at H
                    have c20b0 : (t127 == (-1)) = true := beq_iff_eq.mpr c20
                    have c20b1 : (t127 != (-1)) = false := bne_eq_false_iff_eq.mpr c20
                    clear c20
                    by_cases c21 : t128 < 0
                    · rw [if_pos c21] at H
                      have c21b0 : decide (t128 < 0) = true := decide_eq_true c21
                      clear c21
                      have H' := Aside0.mk H
                      clear H
                      go_wp2
                      go_meet
                      case rel => exact ⟨_, (true), (by first | rfl | (simp; done) | (simp [*]; done)), H', ⟨by first | omega | exact Nat.le_refl _⟩, ⟨by repeat (first | (with_reducible first | exact HB.out | apply below_alloc | apply pw_below_drewN | apply below_drew1) | exact HB.out)⟩⟩
                    · rw [if_neg c21] at H
                      have c21b0 : decide (t128 < 0) = false := decide_eq_false c21
                      clear c21
                      obtain ⟨ji22, hji22⟩ : ∃ j_ : Int, (mx a3 0) = j_ := ⟨_, rfl⟩
                      replace H : (rillmeterlaw02_HashWithin.j0 k a0 a1 (decide (t128 > (ji22)))) = some r := by first | (rw [hji22] at H; exact H) | (simp only [hji22] at H ⊢; exact H)
                      (try (have hji22l : 0 ≤ ji22 := by (rw [← hji22]; unfold mx; (repeat' split) <;> omega)))
                      (try (have hji22m : 0 ≤ ji22 := by omega))
                      have hji22_ : (if a3 < 0 then 0 else a3) = ji22 := hji22
                      have H' := Aside0.mk H
                      clear H
                      go_wp2
                      go_meet
                      case rel => exact ⟨_, (decide (t128 > (ji22))), (by first | rfl | (simp; done) | (simp only [← hji22] <;> (first | rfl | simp)) | (simp [*]; done)), H', ⟨by first | omega | exact Nat.le_refl _⟩, ⟨by repeat (first | (with_reducible first | exact HB.out | apply below_alloc | apply pw_below_drewN | apply below_drew1) | exact HB.out)⟩⟩
                  · rw [if_neg c20] at H
                    have c20b0 : (t127 == (-1)) = false := beq_eq_false_iff_ne.mpr c20
                    have c20b1 : (t127 != (-1)) = true := bne_iff_ne.mpr c20
                    have H' := Aside0.mk H
                    clear H
                    go_wp2
                    go_meet
                    case rel => exact ⟨_, (true), (by first | rfl | (simp; done) | (simp [*]; done)), H', ⟨by first | omega | exact Nat.le_refl _⟩, ⟨by repeat (first | (with_reducible first | exact HB.out | apply below_alloc | apply pw_below_drewN | apply below_drew1) | exact HB.out)⟩⟩
              · rw [if_neg c16] at H
                have c16b0 : (t126 == 0) = false := beq_eq_false_iff_ne.mpr c16
                have c16b1 : (t126 != 0) = true := bne_iff_ne.mpr c16
                have H' := Aside0.mk H
                clear H
                go_wp2
                go_meet
                case rel => exact ⟨_, (true), (by first | rfl | (simp; done) | (simp [*]; done)), H', ⟨by first | omega | exact Nat.le_refl _⟩, ⟨by repeat (first | (with_reducible first | exact HB.out | apply below_alloc | apply pw_below_drewN | apply below_drew1) | exact HB.out)⟩⟩
            · rw [if_neg c15] at H
              have c15b0 : decide (a2 < 1) = false := decide_eq_false c15
              clear c15
              by_cases c23 : t127 = 1
              · rw [if_pos c23] at H
                have c23b0 : (t127 == 1) = true := beq_iff_eq.mpr c23
                have c23b1 : (t127 != 1) = false := bne_eq_false_iff_eq.mpr c23
                clear c23
                by_cases c24 : t128 < 0
                · rw [if_pos c24] at H
                  have c24b0 : decide (t128 < 0) = true := decide_eq_true c24
                  clear c24
                  have H' := Aside0.mk H
                  clear H
                  go_wp2
                  go_meet
                  case rel => exact ⟨_, (true), (by first | rfl | (simp; done) | (simp [*]; done)), H', ⟨by first | omega | exact Nat.le_refl _⟩, ⟨by repeat (first | (with_reducible first | exact HB.out | apply below_alloc | apply pw_below_drewN | apply below_drew1) | exact HB.out)⟩⟩
                · rw [if_neg c24] at H
                  have c24b0 : decide (t128 < 0) = false := decide_eq_false c24
                  clear c24
                  obtain ⟨ji25, hji25⟩ : ∃ j_ : Int, (mx a3 0) = j_ := ⟨_, rfl⟩
                  replace H : (rillmeterlaw02_HashWithin.j0 k a0 a1 (decide (t128 > (ji25)))) = some r := by first | (rw [hji25] at H; exact H) | (simp only [hji25] at H ⊢; exact H)
                  (try (have hji25l : 0 ≤ ji25 := by (rw [← hji25]; unfold mx; (repeat' split) <;> omega)))
                  (try (have hji25m : 0 ≤ ji25 := by omega))
                  have hji25_ : (if a3 < 0 then 0 else a3) = ji25 := hji25
                  have H' := Aside0.mk H
                  clear H
                  go_wp2
                  go_meet
                  case rel => exact ⟨_, (decide (t128 > (ji25))), (by first | rfl | (simp; done) | (simp only [← hji25] <;> (first | rfl | simp)) | (simp [*]; done)), H', ⟨by first | omega | exact Nat.le_refl _⟩, ⟨by repeat (first | (with_reducible first | exact HB.out | apply below_alloc | apply pw_below_drewN | apply below_drew1) | exact HB.out)⟩⟩
              · rw [if_neg c23] at H
                have c23b0 : (t127 == 1) = false := beq_eq_false_iff_ne.mpr c23
                have c23b1 : (t127 != 1) = true := bne_iff_ne.mpr c23
                by_cases c26 : t127 = (-1)
                · rw [if_pos c26] at H
                  have c26b0 : (t127 == (-1)) = true := beq_iff_eq.mpr c26
                  have c26b1 : (t127 != (-1)) = false := bne_eq_false_iff_eq.mpr c26
                  clear c26
                  by_cases c27 : t128 < 0
                  · rw [if_pos c27] at H
                    have c27b0 : decide (t128 < 0) = true := decide_eq_true c27
                    clear c27
                    have H' := Aside0.mk H
                    clear H
                    go_wp2
                    go_meet
                    case rel => exact ⟨_, (true), (by first | rfl | (simp; done) | (simp [*]; done)), H', ⟨by first | omega | exact Nat.le_refl _⟩, ⟨by repeat (first | (with_reducible first | exact HB.out | apply below_alloc | apply pw_below_drewN | apply below_drew1) | exact HB.out)⟩⟩
                  · rw [if_neg c27] at H
                    have c27b0 : decide (t128 < 0) = false := decide_eq_false c27
                    clear c27
                    obtain ⟨ji28, hji28⟩ : ∃ j_ : Int, (mx a3 0) = j_ := ⟨_, rfl⟩
                    replace H : (rillmeterlaw02_HashWithin.j0 k a0 a1 (decide (t128 > (ji28)))) = some r := by first | (rw [hji28] at H; exact H) | (simp only [hji28] at H ⊢; exact H)
                    (try (have hji28l : 0 ≤ ji28 := by (rw [← hji28]; unfold mx; (repeat' split) <;> omega)))
                    (try (have hji28m : 0 ≤ ji28 := by omega))
                    have hji28_ : (if a3 < 0 then 0 else a3) = ji28 := hji28
                    have H' := Aside0.mk H
                    clear H
                    go_wp2
                    go_meet
                    case rel => exact ⟨_, (decide (t128 > (ji28))), (by first | rfl | (simp; done) | (simp only [← hji28] <;> (first | rfl | simp)) | (simp [*]; done)), H', ⟨by first | omega | exact Nat.le_refl _⟩, ⟨by repeat (first | (with_reducible first | exact HB.out | apply below_alloc | apply pw_below_drewN | apply below_drew1) | exact HB.out)⟩⟩
                · rw [if_neg c26] at H
                  have c26b0 : (t127 == (-1)) = false := beq_eq_false_iff_ne.mpr c26
                  have c26b1 : (t127 != (-1)) = true := bne_iff_ne.mpr c26
                  have H' := Aside0.mk H
                  clear H
                  go_wp2
                  go_meet
                  case rel => exact ⟨_, (true), (by first | rfl | (simp; done) | (simp [*]; done)), H', ⟨by first | omega | exact Nat.le_refl _⟩, ⟨by repeat (first | (with_reducible first | exact HB.out | apply below_alloc | apply pw_below_drewN | apply below_drew1) | exact HB.out)⟩⟩
        · rw [if_neg c13] at H
          have c13b0 : decide (0 < a2) = false := decide_eq_false c13
          clear c13
          by_cases c29 : a2 < 1
          · rw [if_pos c29] at H
            have c29b0 : decide (a2 < 1) = true := decide_eq_true c29
            clear c29
            by_cases c30 : t126 = 0
            · rw [if_pos c30] at H
              have c30b0 : (t126 == 0) = true := beq_iff_eq.mpr c30
              have c30b1 : (t126 != 0) = false := bne_eq_false_iff_eq.mpr c30
              clear c30
              by_cases c31 : t127 = 1
              · rw [if_pos c31] at H
                have c31b0 : (t127 == 1) = true := beq_iff_eq.mpr c31
                have c31b1 : (t127 != 1) = false := bne_eq_false_iff_eq.mpr c31
                clear c31
                by_cases c32 : t128 < 0
                · rw [if_pos c32] at H
                  have c32b0 : decide (t128 < 0) = true := decide_eq_true c32
                  clear c32
                  have H' := Aside0.mk H
                  clear H
                  go_wp2
                  go_meet
                  case rel => exact ⟨_, (true), (by first | rfl | (simp; done) | (simp [*]; done)), H', ⟨by first | omega | exact Nat.le_refl _⟩, ⟨by repeat (first | (with_reducible first | exact HB.out | apply below_alloc | apply pw_below_drewN | apply below_drew1) | exact HB.out)⟩⟩
                · rw [if_neg c32] at H
                  have c32b0 : decide (t128 < 0) = false := decide_eq_false c32
                  clear c32
                  obtain ⟨ji33, hji33⟩ : ∃ j_ : Int, (mx a3 0) = j_ := ⟨_, rfl⟩
                  replace H : (rillmeterlaw02_HashWithin.j0 k a0 a1 (decide (t128 > (ji33)))) = some r := by first | (rw [hji33] at H; exact H) | (simp only [hji33] at H ⊢; exact H)
                  (try (have hji33l : 0 ≤ ji33 := by (rw [← hji33]; unfold mx; (repeat' split) <;> omega)))
                  (try (have hji33m : 0 ≤ ji33 := by omega))
                  have hji33_ : (if a3 < 0 then 0 else a3) = ji33 := hji33
                  have H' := Aside0.mk H
                  clear H
                  go_wp2
                  go_meet
                  case rel => exact ⟨_, (decide (t128 > (ji33))), (by first | rfl | (simp; done) | (simp only [← hji33] <;> (first | rfl | simp)) | (simp [*]; done)), H', ⟨by first | omega | exact Nat.le_refl _⟩, ⟨by repeat (first | (with_reducible first | exact HB.out | apply below_alloc | apply pw_below_drewN | apply below_drew1) | exact HB.out)⟩⟩
              · rw [if_neg c31] at H
                have c31b0 : (t127 == 1) = false := beq_eq_false_iff_ne.mpr c31
                have c31b1 : (t127 != 1) = true := bne_iff_ne.mpr c31
                by_cases c34 : t127 = (-1)
                · rw [if_pos c34] at H
                  have c34b0 : (t127 == (-1)) = true := beq_iff_eq.mpr c34
                  have c34b1 : (t127 != (-1)) = false := bne_eq_false_iff_eq.mpr c34
                  clear c34
                  by_cases c35 : t128 < 0
                  · rw [if_pos c35] at H
                    have c35b0 : decide (t128 < 0) = true := decide_eq_true c35
                    clear c35
                    have H' := Aside0.mk H
                    clear H
                    go_wp2
                    go_meet
                    case rel => exact ⟨_, (true), (by first | rfl | (simp; done) | (simp [*]; done)), H', ⟨by first | omega | exact Nat.le_refl _⟩, ⟨by repeat (first | (with_reducible first | exact HB.out | apply below_alloc | apply pw_below_drewN | apply below_drew1) | exact HB.out)⟩⟩
                  · rw [if_neg c35] at H
                    have c35b0 : decide (t128 < 0) = false := decide_eq_false c35
                    clear c35
                    obtain ⟨ji36, hji36⟩ : ∃ j_ : Int, (mx a3 0) = j_ := ⟨_, rfl⟩
                    replace H : (rillmeterlaw02_HashWithin.j0 k a0 a1 (decide (t128 > (ji36)))) = some r := by first | (rw [hji36] at H; exact H) | (simp only [hji36] at H ⊢; exact H)
                    (try (have hji36l : 0 ≤ ji36 := by (rw [← hji36]; unfold mx; (repeat' split) <;> omega)))
                    (try (have hji36m : 0 ≤ ji36 := by omega))
                    have hji36_ : (if a3 < 0 then 0 else a3) = ji36 := hji36
                    have H' := Aside0.mk H
                    clear H
                    go_wp2
                    go_meet
                    case rel => exact ⟨_, (decide (t128 > (ji36))), (by first | rfl | (simp; done) | (simp only [← hji36] <;> (first | rfl | simp)) | (simp [*]; done)), H', ⟨by first | omega | exact Nat.le_refl _⟩, ⟨by repeat (first | (with_reducible first | exact HB.out | apply below_alloc | apply pw_below_drewN | apply below_drew1) | exact HB.out)⟩⟩
                · rw [if_neg c34] at H
                  have c34b0 : (t127 == (-1)) = false := beq_eq_false_iff_ne.mpr c34
                  have c34b1 : (t127 != (-1)) = true := bne_iff_ne.mpr c34
                  have H' := Aside0.mk H
                  clear H
                  go_wp2
                  go_meet
                  case rel => exact ⟨_, (true), (by first | rfl | (simp; done) | (simp [*]; done)), H', ⟨by first | omega | exact Nat.le_refl _⟩, ⟨by repeat (first | (with_reducible first | exact HB.out | apply below_alloc | apply pw_below_drewN | apply below_drew1) | exact HB.out)⟩⟩
            · rw [if_neg c30] at H
              have c30b0 : (t126 == 0) = false := beq_eq_false_iff_ne.mpr c30
              have c30b1 : (t126 != 0) = true := bne_iff_ne.mpr c30
              have H' := Aside0.mk H
              clear H
              go_wp2
              go_meet
              case rel => exact ⟨_, (true), (by first | rfl | (simp; done) | (simp [*]; done)), H', ⟨by first | omega | exact Nat.le_refl _⟩, ⟨by repeat (first | (with_reducible first | exact HB.out | apply below_alloc | apply pw_below_drewN | apply below_drew1) | exact HB.out)⟩⟩
          · rw [if_neg c29] at H
            have c29b0 : decide (a2 < 1) = false := decide_eq_false c29
            clear c29
            by_cases c37 : t127 = 1
            · rw [if_pos c37] at H
              have c37b0 : (t127 == 1) = true := beq_iff_eq.mpr c37
              have c37b1 : (t127 != 1) = false := bne_eq_false_iff_eq.mpr c37
              clear c37
              by_cases c38 : t128 < 0
              · rw [if_pos c38] at H
                have c38b0 : decide (t128 < 0) = true := decide_eq_true c38
                clear c38
                have H' := Aside0.mk H
                clear H
                go_wp2
                go_meet
                case rel => exact ⟨_, (true), (by first | rfl | (simp; done) | (simp [*]; done)), H', ⟨by first | omega | exact Nat.le_refl _⟩, ⟨by repeat (first | (with_reducible first | exact HB.out | apply below_alloc | apply pw_below_drewN | apply below_drew1) | exact HB.out)⟩⟩
              · rw [if_neg c38] at H
                have c38b0 : decide (t128 < 0) = false := decide_eq_false c38
                clear c38
                obtain ⟨ji39, hji39⟩ : ∃ j_ : Int, (mx a3 0) = j_ := ⟨_, rfl⟩
                replace H : (rillmeterlaw02_HashWithin.j0 k a0 a1 (decide (t128 > (ji39)))) = some r := by first | (rw [hji39] at H; exact H) | (simp only [hji39] at H ⊢; exact H)
                (try (have hji39l : 0 ≤ ji39 := by (rw [← hji39]; unfold mx; (repeat' split) <;> omega)))
                (try (have hji39m : 0 ≤ ji39 := by omega))
                have hji39_ : (if a3 < 0 then 0 else a3) = ji39 := hji39
                have H' := Aside0.mk H
                clear H
                go_wp2
                go_meet
                case rel => exact ⟨_, (decide (t128 > (ji39))), (by first | rfl | (simp; done) | (simp only [← hji39] <;> (first | rfl | simp)) | (simp [*]; done)), H', ⟨by first | omega | exact Nat.le_refl _⟩, ⟨by repeat (first | (with_reducible first | exact HB.out | apply below_alloc | apply pw_below_drewN | apply below_drew1) | exact HB.out)⟩⟩
            · rw [if_neg c37] at H
              have c37b0 : (t127 == 1) = false := beq_eq_false_iff_ne.mpr c37
              have c37b1 : (t127 != 1) = true := bne_iff_ne.mpr c37
              by_cases c40 : t127 = (-1)
              · rw [if_pos c40] at H
                have c40b0 : (t127 == (-1)) = true := beq_iff_eq.mpr c40
                have c40b1 : (t127 != (-1)) = false := bne_eq_false_iff_eq.mpr c40
                clear c40
                by_cases c41 : t128 < 0
                · rw [if_pos c41] at H
                  have c41b0 : decide (t128 < 0) = true := decide_eq_true c41
                  clear c41
                  have H' := Aside0.mk H
                  clear H
                  go_wp2
                  go_meet
                  case rel => exact ⟨_, (true), (by first | rfl | (simp; done) | (simp [*]; done)), H', ⟨by first | omega | exact Nat.le_refl _⟩, ⟨by repeat (first | (with_reducible first | exact HB.out | apply below_alloc | apply pw_below_drewN | apply below_drew1) | exact HB.out)⟩⟩
                · rw [if_neg c41] at H
                  have c41b0 : decide (t128 < 0) = false := decide_eq_false c41
                  clear c41
                  obtain ⟨ji42, hji42⟩ : ∃ j_ : Int, (mx a3 0) = j_ := ⟨_, rfl⟩
                  replace H : (rillmeterlaw02_HashWithin.j0 k a0 a1 (decide (t128 > (ji42)))) = some r := by first | (rw [hji42] at H; exact H) | (simp only [hji42] at H ⊢; exact H)
                  (try (have hji42l : 0 ≤ ji42 := by (rw [← hji42]; unfold mx; (repeat' split) <;> omega)))
                  (try (have hji42m : 0 ≤ ji42 := by omega))
                  have hji42_ : (if a3 < 0 then 0 else a3) = ji42 := hji42
                  have H' := Aside0.mk H
                  clear H
                  go_wp2
                  go_meet
                  case rel => exact ⟨_, (decide (t128 > (ji42))), (by first | rfl | (simp; done) | (simp only [← hji42] <;> (first | rfl | simp)) | (simp [*]; done)), H', ⟨by first | omega | exact Nat.le_refl _⟩, ⟨by repeat (first | (with_reducible first | exact HB.out | apply below_alloc | apply pw_below_drewN | apply below_drew1) | exact HB.out)⟩⟩
              · rw [if_neg c40] at H
                have c40b0 : (t127 == (-1)) = false := beq_eq_false_iff_ne.mpr c40
                have c40b1 : (t127 != (-1)) = true := bne_iff_ne.mpr c40
                have H' := Aside0.mk H
                clear H
                go_wp2
                go_meet
                case rel => exact ⟨_, (true), (by first | rfl | (simp; done) | (simp [*]; done)), H', ⟨by first | omega | exact Nat.le_refl _⟩, ⟨by repeat (first | (with_reducible first | exact HB.out | apply below_alloc | apply pw_below_drewN | apply below_drew1) | exact HB.out)⟩⟩
    case rest =>
      clear HC10
      try clear c1
      try clear c2
      try clear p2
      try clear c3
      try clear c4
      try clear c5
      try clear c5b0
      try clear c5b1
      try clear c6
      try clear c7
      try clear c8
      try clear c12
      try clear c12b0
      try clear c13
      try clear c13b0
      try clear c14
      try clear c14b0
      try clear c15
      try clear c15b0
      try clear c16
      try clear c16b0
      try clear c16b1
      try clear c17
      try clear c17b0
      try clear c17b1
      try clear c18
      try clear c18b0
      try clear c20
      try clear c20b0
      try clear c20b1
      try clear c21
      try clear c21b0
      try clear c23
      try clear c23b0
      try clear c23b1
      try clear c24
      try clear c24b0
      try clear c26
      try clear c26b0
      try clear c26b1
      try clear c27
      try clear c27b0
      try clear c29
      try clear c29b0
      try clear c30
      try clear c30b0
      try clear c30b1
      try clear c31
      try clear c31b0
      try clear c31b1
      try clear c32
      try clear c32b0
      try clear c34
      try clear c34b0
      try clear c34b1
      try clear c35
      try clear c35b0
      try clear c37
      try clear c37b0
      try clear c37b1
      try clear c38
      try clear c38b0
      try clear c40
      try clear c40b0
      try clear c40b1
      try clear c41
      try clear c41b0
      obtain ⟨kq, x63_9, rfl, HA, HJ9, HB⟩ := hcut
      cases kq with
      | zero => exact absurd HA.out (by simp [rillmeterlaw02_HashWithin.j0])
      | succ kj9 =>
        have H := HA.out
        clear HA
        simp only [rillmeterlaw02_HashWithin.j0] at H
        by_cases c43 : x63_9 = true
        · subst c43
          have H1 : (some false) = some r := by rw [if_pos rfl] at H; exact H
          clear H
          have H := H1
          clear H1
          exact absurd ((Option.some.inj H).trans hrt.out) (by decide)
        · replace c43 := Bool.eq_false_iff.mpr c43
          subst c43
          have H1 : ((rillmeterref01_Of.f a0).bind fun t129 => ((hash_Sum.f kj9 t129 a1).bind fun t130 => ((hash_Sum.f kj9 a0 a1).bind fun t131 => (if t130 = t131 then ((hash_Sum.f kj9 a0 a1).bind fun t132 => (if t132 < 2305843009213693951 then ((rillmeterlaw02_awake.f kj9).bind fun t133 => (some t133)) else (some false))) else (some false))))) = some r := by rw [if_neg (show ¬ (false = true) by decide)] at H; exact H
          clear H
          have H := H1
          clear H1
          replace H := Option.bind_eq_some_iff.mp H
          obtain ⟨t129, A440, H⟩ := H
          replace H : ((hash_Sum.f kj9 t129 a1).bind fun t130 => ((hash_Sum.f kj9 a0 a1).bind fun t131 => (if t130 = t131 then ((hash_Sum.f kj9 a0 a1).bind fun t132 => (if t132 < 2305843009213693951 then ((rillmeterlaw02_awake.f kj9).bind fun t133 => (some t133)) else (some false))) else (some false)))) = some r := H
          have A44 := Aside0.mk A440
          clear A440
          replace H := Option.bind_eq_some_iff.mp H
          obtain ⟨t130, A450, H⟩ := H
          replace H : ((hash_Sum.f kj9 a0 a1).bind fun t131 => (if t130 = t131 then ((hash_Sum.f kj9 a0 a1).bind fun t132 => (if t132 < 2305843009213693951 then ((rillmeterlaw02_awake.f kj9).bind fun t133 => (some t133)) else (some false))) else (some false))) = some r := H
          have A45 := Aside0.mk A450
          clear A450
          replace H := Option.bind_eq_some_iff.mp H
          obtain ⟨t131, A460, H⟩ := H
          replace H : (if t130 = t131 then ((hash_Sum.f kj9 a0 a1).bind fun t132 => (if t132 < 2305843009213693951 then ((rillmeterlaw02_awake.f kj9).bind fun t133 => (some t133)) else (some false))) else (some false)) = some r := H
          have A46 := Aside0.mk A460
          clear A460
          by_cases c47 : t130 = t131
          · rw [if_pos c47] at H
            have c47b0 : (t130 == t131) = true := beq_iff_eq.mpr c47
            have c47b1 : (t130 != t131) = false := bne_eq_false_iff_eq.mpr c47
            clear c47
            replace H := Option.bind_eq_some_iff.mp H
            obtain ⟨t132, A480, H⟩ := H
            replace H : (if t132 < 2305843009213693951 then ((rillmeterlaw02_awake.f kj9).bind fun t133 => (some t133)) else (some false)) = some r := H
            have A48 := Aside0.mk A480
            clear A480
            obtain rfl := Option.some.inj (A46.out.symm.trans A48.out)
            by_cases c49 : t131 < 2305843009213693951
            · rw [if_pos c49] at H
              have c49b0 : decide (t131 < 2305843009213693951) = true := decide_eq_true c49
              clear c49
              replace H := Option.bind_eq_some_iff.mp H
              obtain ⟨t133, A500, H⟩ := H
              replace H : (some t133) = some r := H
              have A50 := Aside0.mk A500
              clear A500
              obtain rfl := Option.some.inj H
              go_wp2_with (first | ((with_reducible refine gate_callee (f := 10) rfl ?_); refine goesL_ (some 65) rfl rfl Tryd.func10 (by kernel_rfl) rfl #[.int .u64 a0] rfl (by (try simp only [List.map_toArray, List.map_cons, List.map_nil]); first | done | rfl | (simp only [List.length_drop, List.length_take]; rfl)) ?_; (with_reducible refine (rillmeterref01_Of.calls a0 t129 _ A44.out).mono ?_); rintro e w' ⟨rfl, ⟨nd, rfl⟩⟩; refine ⟨_, rfl, ?_⟩) | ((with_reducible refine gate_callee (f := 9) rfl ?_); refine goesL_ (some 67) rfl rfl Tryd.func9 (by kernel_rfl) rfl #[.int .u64 t129, .string a1] rfl (by (try simp only [List.map_toArray, List.map_cons, List.map_nil]); first | done | rfl | (simp only [List.length_drop, List.length_take]; rfl)) ?_; (with_reducible refine (hash_Sum.calls kj9 t129 a1 t130 _ A45.out).mono ?_); rintro e w' ⟨rfl, ⟨nd, rfl⟩⟩; refine ⟨_, rfl, ?_⟩) | ((with_reducible refine gate_callee (f := 9) rfl ?_); refine goesL_ (some 70) rfl rfl Tryd.func9 (by kernel_rfl) rfl #[.int .u64 a0, .string a1] rfl (by (try simp only [List.map_toArray, List.map_cons, List.map_nil]); first | done | rfl | (simp only [List.length_drop, List.length_take]; rfl)) ?_; (with_reducible refine (hash_Sum.calls kj9 a0 a1 t131 _ A46.out).mono ?_); rintro e w' ⟨rfl, ⟨nd, rfl⟩⟩; refine ⟨_, rfl, ?_⟩) | (go_at_call 9; (with_reducible refine (hash_Sum.calls kj9 a0 a1 t131 _ A48.out).mono ?_); rintro e w' ⟨rfl, ⟨nd, rfl⟩⟩) | (go_at_call 5; (with_reducible refine (rillmeterlaw02_awake.calls kj9  t133 _ A50.out).mono ?_); rintro e w' ⟨rfl, ⟨nd, rfl⟩⟩))
              go_ret
              exact ⟨by first | rfl | (simp [errW_none, errW_some] <;> rfl) | (simp [*, errW_none, errW_some] <;> rfl), by repeat (first | (with_reducible first | exact HB.out | apply below_alloc | apply pw_below_drewN | apply below_drew1) | exact HB.out)⟩
            · rw [if_neg c49] at H
              have c49b0 : decide (t131 < 2305843009213693951) = false := decide_eq_false c49
              clear c49
              exact absurd ((Option.some.inj H).trans hrt.out) (by decide)
          · rw [if_neg c47] at H
            have c47b0 : (t130 == t131) = false := beq_eq_false_iff_ne.mpr c47
            have c47b1 : (t130 != t131) = true := bne_iff_ne.mpr c47
            exact absurd ((Option.some.inj H).trans hrt.out) (by decide)



end Go.Proofs.YtjnbnkddbjeecaaDoor.PHashWithin
