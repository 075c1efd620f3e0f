/- Whole numbers as numbers modulo n, lists of them as vectors. -/
import Derived.Test.YtoplnkbhgpamaaaLinClear
namespace Go.Proofs.Ytoplnkbhgpamaaa.Lin

variable {n : Nat} [NeZero n]

theorem n_pos : 0 < n := Nat.pos_of_ne_zero (NeZero.ne n)

def fi (a : Int) : Fin n := ⟨(a % (n : Int)).toNat, by
  have h := n_pos (n := n)
  have h0 := Int.emod_nonneg a (show (n : Int) ≠ 0 by omega)
  have h1 := Int.emod_lt_of_pos a (show (0 : Int) < n by omega)
  omega⟩

theorem fi_val (a : Int) : (((fi a : Fin n).val : Nat) : Int) = a % (n : Int) := by
  have h := n_pos (n := n)
  have h0 := Int.emod_nonneg a (show (n : Int) ≠ 0 by omega)
  show (((a % (n : Int)).toNat : Nat) : Int) = _
  omega

theorem fi_eq {a b : Int} : (fi a : Fin n) = fi b ↔ a % (n : Int) = b % (n : Int) := by
  constructor
  · intro h
    rw [← fi_val a, ← fi_val b, h]
  · intro h
    apply Fin.ext
    have h1 := fi_val (n := n) a
    have h2 := fi_val (n := n) b
    omega

theorem fi_mod (a : Int) : (fi (a % (n : Int)) : Fin n) = fi a := fi_eq.2 (Int.emod_emod_of_dvd a (Int.dvd_refl _))

theorem fi_add (a b : Int) : (fi (a + b) : Fin n) = fi a + fi b := by
  apply Fin.ext
  rw [Fin.val_add]
  have h1 := fi_val (n := n) a
  have h2 := fi_val (n := n) b
  have h3 := fi_val (n := n) (a + b)
  have : ((((fi a : Fin n).val + (fi b : Fin n).val) % n : Nat) : Int) = (a + b) % (n : Int) := by
    rw [Int.natCast_emod, Int.natCast_add, h1, h2, ← Int.add_emod]
  omega

theorem fi_mul (a b : Int) : (fi (a * b) : Fin n) = fi a * fi b := by
  apply Fin.ext
  rw [Fin.val_mul]
  have h1 := fi_val (n := n) a
  have h2 := fi_val (n := n) b
  have h3 := fi_val (n := n) (a * b)
  have : ((((fi a : Fin n).val * (fi b : Fin n).val) % n : Nat) : Int) = (a * b) % (n : Int) := by
    rw [Int.natCast_emod, Int.natCast_mul, h1, h2, ← Int.mul_emod]
  omega

theorem fi_zero : (fi 0 : Fin n) = 0 := by
  apply Fin.ext
  have h1 := fi_val (n := n) 0
  have : ((0 : Fin n).val : Nat) = 0 := rfl
  rw [Int.zero_emod] at h1
  omega

theorem fi_sub (a b : Int) : (fi (a - b) : Fin n) = fi a - fi b := by
  have h : (fi (a - b) : Fin n) + fi b = fi a := by rw [← fi_add, Int.sub_add_cancel]
  grind

theorem fi_one : (fi 1 : Fin n) = 1 := by
  have h : (fi (1 * 1) : Fin n) = fi 1 * fi 1 := fi_mul 1 1
  apply Fin.ext
  have h1 := fi_val (n := n) 1
  have : (((1 : Fin n).val : Nat) : Int) = 1 % (n : Int) := by
    have e : (1 : Fin n).val = 1 % n := rfl
    rw [e, Int.natCast_emod]
    rfl
  omega

theorem fi_eq_zero {a : Int} : (fi a : Fin n) = 0 ↔ a % (n : Int) = 0 := by
  rw [← fi_zero, fi_eq, Int.zero_emod]

/-- the numbers modulo n as they are told -/
theorem fi_inj {a b : Int} (h : (fi a : Fin n) = fi b) (a0 : 0 ≤ a) (a1 : a < n) (b0 : 0 ≤ b) (b1 : b < n) : a = b := by
  have e := fi_eq.1 h
  rw [Int.emod_eq_of_lt a0 a1, Int.emod_eq_of_lt b0 b1] at e
  exact e

theorem fi_surj (x : Fin n) : ∃ a : Int, 0 ≤ a ∧ a < n ∧ (fi a : Fin n) = x := by
  refine ⟨(x.val : Int), by omega, by have := x.isLt; omega, ?_⟩
  apply Fin.ext
  have h1 := fi_val (n := n) (x.val : Int)
  rw [Int.emod_eq_of_lt (by omega) (by have := x.isLt; omega)] at h1
  omega

def vec (r : List Int) : Vec n := fun j => fi (r.getD j 0)

theorem vec_far (r : List Int) (j : Nat) (h : r.length ≤ j) : (vec r : Vec n) j = 0 := by
  unfold vec
  rw [List.getD_eq_getElem?_getD, List.getElem?_eq_none h]
  exact fi_zero

theorem vec_map (r : List Int) (g : Int → Int) (h0 : (fi (g 0) : Fin n) = 0) (j : Nat) : (vec (r.map g) : Vec n) j = fi (g (r.getD j 0)) := by
  unfold vec
  rw [List.getD_eq_getElem?_getD, List.getD_eq_getElem?_getD, List.getElem?_map]
  cases r[j]? with
  | none => rw [show Option.map g none = none from rfl]; simp only [Option.getD_none]; rw [h0]; exact fi_zero
  | some x => rfl

theorem vec_mapIdx (r : List Int) (g : Nat → Int → Int) (j : Nat) (h : j < r.length) : (vec (r.mapIdx g) : Vec n) j = fi (g j (r.getD j 0)) := by
  unfold vec
  rw [List.getD_eq_getElem?_getD, List.getD_eq_getElem?_getD, List.getElem?_mapIdx, List.getElem?_eq_getElem h]
  rfl

/-- the number whose product with one is 1 -/
noncomputable def gi (a : Fin n) : Fin n := open Classical in if h : ∃ b, a * b = 1 then h.choose else 0

theorem gi_of {a b : Fin n} (h : a * b = 1) : gi a = b := by
  have he : ∃ b, a * b = 1 := ⟨b, h⟩
  have e : gi a = he.choose := by unfold gi; rw [dif_pos he]
  have h2 := he.choose_spec
  rw [← e] at h2
  have : gi a = gi a * (a * b) := by rw [h]; grind
  grind

/-- numbers modulo n with inverses, no divisors of nought -/
structure Fld (n : Nat) [NeZero n] : Prop where
  one : (1 : Fin n) ≠ 0
  inv : ∀ a : Fin n, a ≠ 0 → ∃ b, a * b = 1

theorem Fld.noZero (F : Fld n) : NoZero n := by
  intro a b h
  by_cases ha : a = 0
  · exact .inl ha
  · obtain ⟨c, hc⟩ := F.inv a ha
    right
    have : b = c * (a * b) := by
      have : c * (a * b) = (a * c) * b := by grind
      rw [this, hc]; grind
    rw [this, h]; grind

theorem Fld.gi_mul (F : Fld n) (a : Fin n) (h : a ≠ 0) : a * gi a = 1 := by
  obtain ⟨c, hc⟩ := F.inv a h
  rw [gi_of hc]; exact hc

end Go.Proofs.Ytoplnkbhgpamaaa.Lin
