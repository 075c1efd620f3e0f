/- Rows and their solutions; the first number of a row; a row without what others have. -/
import Derived.Test.YtoplnkbhgpamaaaLinField
namespace Go.Proofs.Ytoplnkbhgpamaaa.LinSolve
open Go Go.RowKit Go.Proofs.YtoplnkbhgpamaaaW.PrintWords Go.Proofs.Ytoplnkbhgpamaaa.Lin Go.Proofs.Ytoplnkbhgpamaaa.Num Go.Proofs.Ytoplnkbhgpamaaa.Evs Go.Proofs.Ytoplnkbhgpamaaa.LinField
set_option linter.unusedSimpArgs false
set_option linter.unusedVariables false

section
variable {n : Nat} [NeZero n]

theorem dotV_zero (x : Vec n) (w : Nat) : dotV (fun _ => 0) x w = 0 := by
  induction w with
  | zero => rfl
  | succ w ih => show dotV (fun _ => 0) x w + 0 * x w = 0; rw [ih]; grind

theorem dotV_add (c : Fin n) (r v x : Vec n) (w : Nat) : dotV (fun j => v j + c * r j) x w = dotV v x w + c * dotV r x w := by
  induction w with
  | zero => show (0 : Fin n) = 0 + c * 0; grind
  | succ w ih =>
    show dotV (fun j => v j + c * r j) x w + (v w + c * r w) * x w = (dotV v x w + v w * x w) + c * (dotV r x w + r w * x w)
    rw [ih]; grind

theorem dotV_nought (v x : Vec n) (w : Nat) (h : ∀ j, j < w → v j = 0) : dotV v x w = 0 := by
  induction w with
  | zero => rfl
  | succ w ih =>
    show dotV v x w + v w * x w = 0
    rw [ih (fun j hj => h j (by omega)), h w (by omega)]; grind

theorem dotV_unit (v x : Vec n) (i : Nat) : ∀ w, (∀ j, j < w → v j = if i = j then 1 else 0) → dotV v x w = if i < w then x i else 0 := by
  intro w
  induction w with
  | zero => intro _; rw [if_neg (by omega)]; rfl
  | succ w ih =>
    intro h
    show dotV v x w + v w * x w = _
    rw [ih (fun j hj => h j (by omega)), h w (by omega)]
    by_cases c : i = w
    · rw [if_neg (by omega), if_pos c, if_pos (by omega), c]; grind
    · rw [if_neg c]
      by_cases c2 : i < w
      · rw [if_pos c2, if_pos (by omega)]; grind
      · rw [if_neg c2, if_neg (by omega)]; grind

theorem Sp.dot {L : List (Vec n)} {x : Vec n} {w : Nat} (h : ∀ v ∈ L, dotV v x w = v w) {v : Vec n} (hv : Sp L v) : dotV v x w = v w :=
  Sp.ind (fun v => dotV v x w = v w) (dotV_zero x w) (fun c r v hr hv => by show dotV (fun j => v j + c * r j) x w = v w + c * r w; rw [dotV_add, hr, hv]) h hv

theorem row_unit {L m : List (Vec n)} {ps : List Nat} {w : Nat} (h : Clear L m ps w) (full : ps.length = w) (r : Nat) (v : Vec n) (hv : m[r]? = some v) : ∀ j, j < w → v j = if r = j then 1 else 0 := by
  intro j hj
  have e := inc_all ps 0 w h.inc (fun p hp => by
    obtain ⟨i, hi⟩ := List.mem_iff_getElem?.1 hp
    exact ⟨by omega, h.lt i p hi⟩) (by omega) j (by omega)
  rw [Nat.zero_add] at e
  exact h.one j j r v e hv

theorem solve_abs {L m : List (Vec n)} {ps : List Nat} {w : Nat} (h : Clear L m ps w) (full : ps.length = w) (hr : ∀ (r : Nat) (v : Vec n), w ≤ r → m[r]? = some v → v w = 0) (x : Vec n) (hx : ∀ (i : Nat) (v : Vec n), i < w → m[i]? = some v → x i = v w) :
    ∀ v ∈ L, dotV v x w = v w := by
  have hm : ∀ v ∈ m, dotV v x w = v w := by
    intro v hv
    obtain ⟨r, hr1⟩ := List.mem_iff_getElem?.1 hv
    by_cases c : r < w
    · rw [dotV_unit v x r w (row_unit h full r v hr1), if_pos c]; exact hx r v c hr1
    · rw [dotV_nought v x w (h.rest r v (by omega) hr1)]; exact (hr r v (by omega) hr1).symm
  exact fun v hv => Sp.dot hm (h.into v hv)

theorem solve_uniq {L m : List (Vec n)} {ps : List Nat} {w : Nat} (h : Clear L m ps w) (full : ps.length = w) (x : Vec n) (h0 : ∀ v ∈ L, dotV v x w = v w) (i : Nat) (v : Vec n) (hi : i < w) (hv : m[i]? = some v) : x i = v w := by
  have e := Sp.dot h0 (h.back v (List.mem_iff_getElem?.2 ⟨i, hv⟩))
  rw [dotV_unit v x i w (row_unit h full i v hv), if_pos hi] at e
  exact e

theorem no_lead {L : List (Vec n)} {w : Nat} (x : Vec n) (h0 : ∀ v ∈ L, dotV v x w = v w) : ¬ Lead L w := by
  rintro ⟨v, hv, h1, h2⟩
  have e := Sp.dot h0 hv
  rw [dotV_nought v x w h2] at e
  exact h1 e.symm

theorem rank_succ (L : List (Vec n)) (w : Nat) : (¬ Lead L w → rank L (w + 1) = rank L w) ∧ (Lead L w → rank L (w + 1) = rank L w + 1) := by
  unfold rank
  constructor
  · intro h
    show count (Lead L) w + @ite Nat (Lead L w) (Classical.propDecidable _) 1 0 = _
    rw [if_neg h]; rfl
  · intro h
    show count (Lead L) w + @ite Nat (Lead L w) (Classical.propDecidable _) 1 0 = _
    rw [if_pos h]

theorem rank_agree {L M : List (Vec n)} (w : Nat) (h : ∀ r ∈ L, ∃ s ∈ M, ∀ j, j < w → s j = r j) (g : ∀ r ∈ M, ∃ s ∈ L, ∀ j, j < w → s j = r j) : rank L w = rank M w :=
  Nat.le_antisymm (rank_le_agree w (fun r hr => by obtain ⟨s, hs, e⟩ := h r hr; exact ⟨s, Sp.mem hs, e⟩)) (rank_le_agree w (fun r hr => by obtain ⟨s, hs, e⟩ := g r hr; exact ⟨s, Sp.mem hs, e⟩))
end

/-- where the first number is that is not 0 modulo the prime; the length, if there is none -/
def firstN : List Int → Nat
  | [] => 0
  | y :: t => if y % 2305843009213693951 = 0 then firstN t + 1 else 0

theorem firstN_le : ∀ r : List Int, firstN r ≤ r.length := by
  intro r
  induction r with
  | nil => exact Nat.le_refl _
  | cons y t ih =>
    unfold firstN
    split
    · simp only [List.length_cons]; omega
    · omega

theorem firstN_zero : ∀ (r : List Int) (j : Nat), j < firstN r → r.getD j 0 % 2305843009213693951 = 0 := by
  intro r
  induction r with
  | nil => intro j h; simp [firstN] at h
  | cons y t ih =>
    intro j h
    unfold firstN at h
    split at h
    · rename_i c
      cases j with
      | zero => exact c
      | succ j => exact ih j (by omega)
    · omega

theorem firstN_ne : ∀ (r : List Int), firstN r < r.length → r.getD (firstN r) 0 % 2305843009213693951 ≠ 0 := by
  intro r
  induction r with
  | nil => intro h; simp [firstN] at h
  | cons y t ih =>
    intro h
    unfold firstN at h ⊢
    split at h
    · rename_i c
      rw [if_pos c]
      simp only [List.length_cons] at h
      exact ih (by omega)
    · rename_i c
      rw [if_neg c]
      exact c

theorem firstN_lead {n : Nat} [NeZero n] (hn : (n : Int) = 2305843009213693951) (r : List Int) (h : firstN r < r.length) : IsLead (vec r : Vec n) (firstN r) := by
  refine ⟨fun e => firstN_ne r h ?_, fun j hj => ?_⟩
  · have := fi_eq_zero.1 e
    rw [hn] at this; exact this
  · refine fi_eq_zero.2 ?_
    rw [hn]; exact firstN_zero r j hj

theorem firstN_none {n : Nat} [NeZero n] (hn : (n : Int) = 2305843009213693951) (r : List Int) (h : ¬ firstN r < r.length) : ∀ j, (vec r : Vec n) j = 0 := by
  intro j
  by_cases hj : j < r.length
  · refine fi_eq_zero.2 ?_
    rw [hn]; exact firstN_zero r j (by have := firstN_le r; omega)
  · exact vec_far r j (by omega)

/-- a row without one other -/
def less1 (e : Nat) (out b : List Int) : List Int := elimR (out.getD (firstN b) 0 * (b.getD (firstN b) 0 ^ e % 2305843009213693951) % 2305843009213693951) b out

def lessL (e : Nat) (out : List Int) (base : List (List Int)) : List Int := base.foldl (less1 e) out

theorem lessL_len (e : Nat) : ∀ (base : List (List Int)) (out : List Int), (lessL e out base).length = out.length := by
  intro base
  induction base with
  | nil => intro out; rfl
  | cons b base ih =>
    intro out
    show (lessL e (less1 e out b) base).length = _
    rw [ih]
    exact (elimR_ok _ _ _).1

theorem less1_num (e : Nat) (out b : List Int) : ∀ x ∈ less1 e out b, 0 ≤ x ∧ x < 18446744073709551616 := fun x hx => by
  have := (elimR_ok _ _ _).2 x hx
  omega

theorem lessL_num (e : Nat) : ∀ (base : List (List Int)) (out : List Int), (∀ x ∈ out, 0 ≤ x ∧ x < 18446744073709551616) → ∀ x ∈ lessL e out base, 0 ≤ x ∧ x < 18446744073709551616 := by
  intro base
  induction base with
  | nil => intro out h; exact h
  | cons b base ih =>
    intro out h
    exact ih _ (less1_num e out b)

def asBase {n : Nat} [NeZero n] (base : List (List Int)) : List (Vec n × Nat) := base.map fun b => (vec b, firstN b)

theorem less1_vec {n : Nat} [NeZero n] (hn : (n : Int) = 2305843009213693951) (F : Fld n) (e : Nat) (he : e = 2305843009213693949) (out b : List Int) (hb : firstN b < b.length) (hl : b.length = out.length) (hnum : ∀ x ∈ b, 0 ≤ x ∧ x < 18446744073709551616) (j : Nat) :
    (vec (less1 e out b) : Vec n) j = vec out j - (vec out (firstN b) * gi (vec b (firstN b))) * vec b j := by
  unfold less1
  rw [vec_elim hn _ _ _ (by omega), fi_P hn, fi_mul]
  have h1 := firstN_ne b hb
  have h0 := hnum _ (getD_mem 0 b _ hb)
  have h2 := inverse_int (b.getD (firstN b) 0) e he h0.1 h1
  have h3 : gi (vec b (firstN b) : Fin n) = fi (b.getD (firstN b) 0 ^ e % 2305843009213693951) := by
    refine gi_of ?_
    show fi (b.getD (firstN b) 0) * _ = 1
    rw [← fi_mul, ← fi_one, fi_eq, hn, h2]; omega
  rw [h3]
  rfl

theorem lessL_vec {n : Nat} [NeZero n] (hn : (n : Int) = 2305843009213693951) (F : Fld n) (e : Nat) (he : e = 2305843009213693949) (w : Nat) : ∀ (base : List (List Int)) (out : List Int), (∀ b ∈ base, b.length = w ∧ firstN b < w ∧ ∀ x ∈ b, 0 ≤ x ∧ x < 18446744073709551616) → out.length = w →
    (vec (lessL e out base) : Vec n) = less gi (vec out) (asBase base) := by
  intro base
  induction base with
  | nil => intro out _ _; rfl
  | cons b base ih =>
    intro out hb hl
    have h1 := hb b (List.mem_cons_self ..)
    show vec (lessL e (less1 e out b) base) = less gi (fun j => vec out j - (vec out (firstN b) * gi (vec b (firstN b))) * vec b j) (asBase base)
    rw [ih _ (fun c hc => hb c (List.mem_cons_of_mem _ hc)) (by rw [show (less1 e out b).length = out.length from (elimR_ok _ _ _).1]; exact hl)]
    have : (vec (less1 e out b) : Vec n) = fun j => vec out j - (vec out (firstN b) * gi (vec b (firstN b))) * vec b j := by
      funext j
      exact less1_vec hn F e he out b (by omega) (by omega) h1.2.2 j
    rw [this]

/-- one row more taken up -/
theorem base_more {n : Nat} [NeZero n] (hn : (n : Int) = 2305843009213693951) (F : Fld n) (e : Nat) (he : e = 2305843009213693949) (w : Nat) {L : List (Vec n)} (base : List (List Int)) (hb : ∀ b ∈ base, b.length = w ∧ firstN b < w ∧ ∀ x ∈ b, 0 ≤ x ∧ x < 18446744073709551616) (h : BaseOf L (asBase base)) (row : List Int) (hrow : row.length = w) :
    (firstN (lessL e row base) < w → BaseOf (L ++ [vec row]) (asBase (base ++ [lessL e row base]))) ∧ (¬ firstN (lessL e row base) < w → BaseOf (L ++ [vec row]) (asBase base)) := by
  have hv := lessL_vec hn F e he w base row hb hrow
  have hl := lessL_len e base row
  constructor
  · intro c
    have hlead := firstN_lead hn (lessL e row base) (by omega)
    rw [hv] at hlead
    have := h.more gi (F.gi_mul) (vec row) _ hlead
    rw [← hv] at this
    simpa [asBase] using this
  · intro c
    refine h.skip gi (vec row) (fun j => ?_)
    rw [← hv]
    exact firstN_none hn _ (by omega) j

end Go.Proofs.Ytoplnkbhgpamaaa.LinSolve
