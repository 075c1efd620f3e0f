/- Rows brought into steps, one column behind the other: the span stays, the steps are the rank. -/
import Derived.Test.YtoplnkbhgpamaaaLinMore
namespace Go.Proofs.Ytoplnkbhgpamaaa.Lin

variable {n : Nat} [NeZero n]

structure Clear (L m : List (Vec n)) (ps : List Nat) (c : Nat) : Prop where
  into : ∀ r ∈ L, Sp m r
  back : ∀ r ∈ m, Sp L r
  le : ps.length ≤ m.length
  lt : ∀ (i p : Nat), ps[i]? = some p → p < c
  inc : ps.Pairwise (· < ·)
  one : ∀ (i p r : Nat) (v : Vec n), ps[i]? = some p → m[r]? = some v → v p = if r = i then 1 else 0
  lead : ∀ (i p : Nat) (v : Vec n), ps[i]? = some p → m[i]? = some v → ∀ j, j < p → v j = 0
  rest : ∀ (r : Nat) (v : Vec n), ps.length ≤ r → m[r]? = some v → ∀ j, j < c → v j = 0

theorem Clear.start (L : List (Vec n)) : Clear L L [] 0 :=
  ⟨fun _ h => Sp.mem h, fun _ h => Sp.mem h, Nat.zero_le _, by simp, List.Pairwise.nil, by simp, by simp, fun _ _ _ _ j h => absurd h (by omega)⟩

theorem Clear.none {L m : List (Vec n)} {ps : List Nat} {c : Nat} (h : Clear L m ps c) (h0 : ∀ (r : Nat) (v : Vec n), ps.length ≤ r → m[r]? = some v → v c = 0) : Clear L m ps (c + 1) :=
  ⟨h.into, h.back, h.le, fun i p hp => Nat.lt_succ_of_lt (h.lt i p hp), h.inc, h.one, h.lead, fun r v hr hv j hj => by
    rcases Nat.lt_succ_iff_lt_or_eq.1 hj with h1 | h1
    · exact h.rest r v hr hv j h1
    · rw [h1]; exact h0 r v hr hv⟩

theorem Clear.some {L m m3 : List (Vec n)} {ps : List Nat} {c p : Nat} {w b : Vec n} {a a' : Fin n} (h : Clear L m ps c) (hp : ps.length ≤ p) (hw : m[p]? = .some w) (ha : a * a' = 1) (ea : w c = a)
    (hb : ∀ j, b j = a' * w j) (hl : m3.length = m.length) (hk : m3[ps.length]? = .some b)
    (ho : ∀ (r : Nat) (v : Vec n), r ≠ ps.length → (if r = p then m[ps.length]? else m[r]?) = .some v → m3[r]? = .some (fun j => v j - v c * b j)) : Clear L m3 (ps ++ [c]) (c + 1) := by
  have hpl : p < m.length := (List.getElem?_eq_some_iff.1 hw).1
  have hkl : ps.length < m.length := by omega
  have hbc : b c = 1 := by rw [hb, ea]; grind
  have hw0 : ∀ j, j < c → w j = 0 := h.rest p w hp hw
  have hb0 : ∀ j, j < c → b j = 0 := fun j hj => by rw [hb, hw0 j hj]; grind
  have hbp : ∀ i q, ps[i]? = .some q → b q = 0 := fun i q hq => hb0 q (h.lt i q hq)
  have hmk : ∃ vk, m[ps.length]? = .some vk := ⟨_, List.getElem?_eq_getElem hkl⟩
  -- a row of m3, told by one of m
  have back : ∀ r v3, r ≠ ps.length → m3[r]? = .some v3 → ∃ v, (if r = p then m[ps.length]? else m[r]?) = .some v ∧ v3 = fun j => v j - v c * b j := by
    intro r v3 hr h3
    have hrl : r < m.length := by have := (List.getElem?_eq_some_iff.1 h3).1; omega
    have : ∃ v, (if r = p then m[ps.length]? else m[r]?) = .some v := by
      split
      · exact hmk
      · exact ⟨_, List.getElem?_eq_getElem hrl⟩
    obtain ⟨v, hv⟩ := this
    exact ⟨v, hv, Option.some.inj (h3.symm.trans (ho r v hr hv))⟩
  have hbm : b ∈ m3 := List.mem_iff_getElem?.2 ⟨_, hk⟩
  have hwm : w ∈ m := List.mem_iff_getElem?.2 ⟨_, hw⟩
  have ha' : ∀ j, w j = a * b j := fun j => by rw [hb]; grind
  have inm : ∀ r v, (if r = p then m[ps.length]? else m[r]?) = .some v → v ∈ m := by
    intro r v hv
    split at hv
    · exact List.mem_iff_getElem?.2 ⟨_, hv⟩
    · exact List.mem_iff_getElem?.2 ⟨_, hv⟩
  have into : ∀ v ∈ m, Sp m3 v := by
    intro v hv
    obtain ⟨r, hr⟩ := List.mem_iff_getElem?.1 hv
    have sb := Sp.mem (n := n) hbm
    by_cases hrp : r = p
    · subst hrp
      have e : v = w := Option.some.inj (hr.symm.trans hw)
      subst e
      exact (Sp.comb a 0 sb sb).ext (fun j => by have := ha' j; grind)
    · -- which row of m3 holds it
      have key : ∀ r', r' ≠ ps.length → (if r' = p then m[ps.length]? else m[r']?) = .some v → Sp m3 v := by
        intro r' h1 h2
        have h3 := ho r' v h1 h2
        exact (Sp.comb 1 (v c) (Sp.mem (List.mem_iff_getElem?.2 ⟨_, h3⟩)) sb).ext (fun j => by grind)
      by_cases hrk : r = ps.length
      · by_cases hpk : p = ps.length
        · exact absurd (hrk.trans hpk.symm) hrp
        · exact key p hpk (by rw [if_pos rfl, ← hrk]; exact hr)
      · exact key r hrk (by rw [if_neg hrp]; exact hr)
  have out : ∀ v ∈ m3, Sp m v := by
    intro v hv
    obtain ⟨r, hr⟩ := List.mem_iff_getElem?.1 hv
    have sw := Sp.mem (n := n) hwm
    have sb : Sp m b := (Sp.comb a' 0 sw sw).ext (fun j => by have := hb j; grind)
    by_cases hrk : r = ps.length
    · subst hrk
      have e : v = b := Option.some.inj (hr.symm.trans hk)
      subst e
      exact sb
    · obtain ⟨v0, h0, rfl⟩ := back r v hrk hr
      exact (Sp.comb 1 (- v0 c) (Sp.mem (inm r v0 h0)) sb).ext (fun j => by grind)
  refine ⟨fun r hr => Sp.mono into (h.into r hr), fun r hr => Sp.mono h.back (out r hr), by simp; omega, ?_, ?_, ?_, ?_, ?_⟩
  · intro i q hq
    rw [List.getElem?_append] at hq
    split at hq
    · exact Nat.lt_succ_of_lt (h.lt i q hq)
    · have := List.mem_of_getElem? hq
      have : q = c := by simpa using this
      omega
  · refine List.pairwise_append.2 ⟨h.inc, List.pairwise_singleton _ _, fun x hx y hy => ?_⟩
    obtain ⟨i, hi⟩ := List.mem_iff_getElem?.1 hx
    have : y = c := by simpa using hy
    subst this
    exact h.lt i x hi
  · intro i q r v hq hr
    rw [List.getElem?_append] at hq
    split at hq
    · rename_i hi
      by_cases hrk : r = ps.length
      · subst hrk
        have e : v = b := Option.some.inj (hr.symm.trans hk)
        subst e
        rw [hbp i q hq, if_neg (by omega)]
      · obtain ⟨v0, h0, rfl⟩ := back r v hrk hr
        show v0 q - v0 c * b q = _
        rw [hbp i q hq]
        split at h0
        · have := h.one i q _ v0 hq h0
          rw [if_neg (by omega)] at this
          rw [this, if_neg (by omega)]; grind
        · have := h.one i q _ v0 hq h0
          rw [this]; grind
    · rename_i hi
      have hq' := List.mem_of_getElem? hq
      have eq : q = c := by simpa using hq'
      have hi' : i = ps.length := by
        have := (List.getElem?_eq_some_iff.1 hq).1
        simp at this; omega
      subst eq
      by_cases hrk : r = ps.length
      · subst hrk
        have e : v = b := Option.some.inj (hr.symm.trans hk)
        subst e
        rw [if_pos hi'.symm]; exact hbc
      · obtain ⟨v0, h0, rfl⟩ := back r v hrk hr
        show v0 q - v0 q * b q = _
        rw [hbc, if_neg (by omega)]; grind
  · intro i q v hq hr j hj
    rw [List.getElem?_append] at hq
    split at hq
    · rename_i hi
      obtain ⟨v0, h0, rfl⟩ := back i v (by omega) hr
      rw [if_neg (by omega)] at h0
      show v0 j - v0 c * b j = 0
      rw [h.lead i q v0 hq h0 j hj, hb0 j (by have := h.lt i q hq; omega)]; grind
    · rename_i hi
      have hq' := List.mem_of_getElem? hq
      have eq : q = c := by simpa using hq'
      have hi' : i = ps.length := by
        have := (List.getElem?_eq_some_iff.1 hq).1
        simp at this; omega
      subst eq hi'
      have e : v = b := Option.some.inj (hr.symm.trans hk)
      subst e
      exact hb0 j hj
  · intro r v hr hv j hj
    simp at hr
    obtain ⟨v0, h0, rfl⟩ := back r v (by omega) hv
    show v0 j - v0 c * b j = 0
    rcases Nat.lt_succ_iff_lt_or_eq.1 hj with h1 | h1
    · have : v0 j = 0 := by
        split at h0
        · exact h.rest _ v0 (Nat.le_refl _) h0 j h1
        · exact h.rest r v0 (by omega) h0 j h1
      rw [this, hb0 j h1]; grind
    · rw [h1, hbc]; grind

theorem Clear.steps (hz : NoZero n) (h1 : (1 : Fin n) ≠ 0) {L m : List (Vec n)} {ps : List Nat} {c : Nat} (h : Clear L m ps c) (d : Nat) (hd : c ≤ d) (hr : ∀ (r : Nat) (v : Vec n), ps.length ≤ r → m[r]? = .some v → ∀ j, j < d → v j = 0) : rank L d = ps.length := by
  have e1 : rank L d = rank m d := rank_eq h.into h.back d
  have e2 : ((m.take ps.length).zip ps).map (·.1) = m.take ps.length := by
    rw [List.map_fst_zip]
    rw [List.length_take]; have := h.le; omega
  have e3 : ((m.take ps.length).zip ps).map (·.2) = ps := by
    rw [List.map_snd_zip]
    rw [List.length_take]; have := h.le; omega
  have hm : ∀ x ∈ (m.take ps.length).zip ps, ∃ i : Nat, m[i]? = .some x.1 ∧ ps[i]? = .some x.2 := by
    intro x hx
    obtain ⟨i, hi⟩ := List.mem_iff_getElem?.1 hx
    rw [List.getElem?_zip_eq_some] at hi
    refine ⟨i, ?_, hi.2⟩
    have := hi.1
    rw [List.getElem?_take] at this
    split at this
    · exact this
    · cases this
  have e4 := rank_of hz ((m.take ps.length).zip ps) (m.drop ps.length) d (by
      rw [e3]
      exact h.inc.imp (fun h => Nat.ne_of_lt h)) (fun x hx => by
      obtain ⟨i, hi1, hi2⟩ := hm x hx
      refine ⟨?_, h.lead i x.2 x.1 hi2 hi1⟩
      rw [h.one i x.2 i x.1 hi2 hi1, if_pos rfl]; exact h1) (fun x hx => by
      obtain ⟨i, hi1, hi2⟩ := hm x hx
      have := h.lt i x.2 hi2
      omega) (fun r hr' j hj => by
      obtain ⟨i, hi⟩ := List.mem_iff_getElem?.1 hr'
      rw [List.getElem?_drop] at hi
      exact hr _ r (by omega) hi j hj)
  rw [e1, ← List.take_append_drop ps.length m, ← e2, e4]
  rw [List.length_zip, List.length_take]
  have := h.le
  omega

theorem Clear.steps' (hz : NoZero n) (h1 : (1 : Fin n) ≠ 0) {L m : List (Vec n)} {ps : List Nat} {c : Nat} (h : Clear L m ps c) : rank L c = ps.length :=
  h.steps hz h1 c (Nat.le_refl _) h.rest

/-- all columns are steps: the steps are 0, 1, .. -/
theorem inc_all : ∀ (ps : List Nat) (k c : Nat), ps.Pairwise (· < ·) → (∀ p ∈ ps, k ≤ p ∧ p < c) → c - k = ps.length → ∀ i, i < ps.length → ps[i]? = .some (k + i) := by
  intro ps
  induction ps with
  | nil => intro k c _ _ _ i hi; simp at hi
  | cons p ps ih =>
    intro k c hp hb hl i hi
    have hp' := List.pairwise_cons.1 hp
    have hlen : ∀ (qs : List Nat) (a : Nat), qs.Pairwise (· < ·) → (∀ q ∈ qs, a ≤ q ∧ q < c) → qs.length ≤ c - a := by
      intro qs
      induction qs with
      | nil => intro a _ _; simp
      | cons q qs ih2 =>
        intro a h1 h2
        have h1' := List.pairwise_cons.1 h1
        have h3 := h2 q (by simp)
        have := ih2 (q + 1) h1'.2 (fun x hx => ⟨h1'.1 x hx, (h2 x (by simp [hx])).2⟩)
        simp only [List.length_cons]
        omega
    have hpk : p = k := by
      have h3 := hb p (by simp)
      have := hlen ps (p + 1) hp'.2 (fun x hx => ⟨hp'.1 x hx, (hb x (by simp [hx])).2⟩)
      simp only [List.length_cons] at hl
      omega
    subst hpk
    rcases i with _ | i
    · simp
    · have h3 := hb p (by simp)
      rw [List.getElem?_cons_succ, ih (p + 1) c hp'.2 (fun x hx => ⟨hp'.1 x hx, (hb x (by simp [hx])).2⟩) (by simp only [List.length_cons] at hl; omega) i (by simp only [List.length_cons] at hi; omega)]
      rw [show p + 1 + i = p + (i + 1) by omega]

end Go.Proofs.Ytoplnkbhgpamaaa.Lin
