/- Filters in plain lists: the places of a key, bits set at places, are all bits of places set. The conditions stand in each lemma. -/
import Derived.Test.YtmlcafnnhpfpaaaWWords
import Derived.Test.YtmlcafnnhpfpaaaHash
namespace Go.Proofs.Ytmlcafnnhpfpaaa.Bloom
open Go Go.RowKit Go.Proofs.YtmlcafnnhpfpaaaW.PrintWords Go.Proofs.Ytmlcafnnhpfpaaa.Hash
set_option linter.unusedSimpArgs false

/-- the places of a key: one for each hash -/
def placesOf (seed hs : Int) (n : Nat) (key : ByteArray) : List Int := (List.range' 0 hs.toNat).map (fun (i : Nat) => hcell (hrow seed (i : Int)) key n)

/-- bits with those at places set -/
def setAll (bits : List Bool) : List Int → List Bool
  | [] => bits
  | p :: ps => setAll (bits.set p.toNat true) ps

theorem setAll_length (ps : List Int) : ∀ bits : List Bool, (setAll bits ps).length = bits.length := by
  induction ps with
  | nil => intro bits; rfl
  | cons p ps ih => intro bits; simp [setAll, ih]

theorem placesOf_length (seed hs : Int) (n : Nat) (key : ByteArray) : (placesOf seed hs n key).length = hs.toNat := by simp [placesOf]

theorem placesOf_range (seed hs : Int) (n : Nat) (key : ByteArray) (h : 1 ≤ n) : ∀ p ∈ placesOf seed hs n key, 0 ≤ p ∧ p < n := by
  intro p hp
  unfold placesOf at hp
  obtain ⟨i, _, rfl⟩ := List.mem_map.1 hp
  exact hcell_range _ _ _ (by omega)

/-- is bit p among the places? -/
theorem setAll_get (ps : List Int) (hp : ∀ p ∈ ps, 0 ≤ p) : ∀ (bits : List Bool) (i : Nat), i < bits.length → (setAll bits ps).getD i false = (bits.getD i false || decide ((i : Int) ∈ ps)) := by
  induction ps with
  | nil => intro bits i hi; simp [setAll]
  | cons p ps ih =>
    intro bits i hi
    have hp0 := hp p (by simp)
    simp only [setAll]
    rw [ih (fun q hq => hp q (by simp [hq])) _ i (by simpa using hi)]
    by_cases e : p.toNat = i
    · have e2 : (i : Int) = p := by omega
      simp [List.getD_eq_getElem?_getD, e, hi, e2]
    · have e2 : ¬ (i : Int) = p := by omega
      simp [List.getD_eq_getElem?_getD, List.getElem?_set, e, e2]

theorem set_same (bits : List Bool) : ∀ (p : Nat), bits.getD p false = true → bits.set p true = bits := by
  induction bits with
  | nil => intro p h; simp at h
  | cons b bits ih =>
    intro p h
    cases p with
    | zero => simp at h; simp [h]
    | succ p => simp at h; simp [ih p (by simpa using h)]

theorem count_set (bits : List Bool) : ∀ (p : Nat), p < bits.length → bits.getD p false = false → (bits.set p true).count true = bits.count true + 1 := by
  induction bits with
  | nil => intro p h; simp at h
  | cons b bits ih =>
    intro p h hb
    cases p with
    | zero => simp at hb; simp [hb]
    | succ p =>
      have h2 := ih p (by simpa using h) (by simpa using hb)
      simp only [List.set_cons_succ, List.count_cons, h2]
      omega

theorem count_setAll (ps : List Int) : ∀ (bits : List Bool), (∀ p ∈ ps, 0 ≤ p ∧ p < bits.length) → bits.count true ≤ (setAll bits ps).count true ∧ (setAll bits ps).count true ≤ bits.count true + ps.length ∧
    ((setAll bits ps).count true = bits.count true ↔ ∀ p ∈ ps, bits.getD p.toNat false = true) := by
  induction ps with
  | nil => intro bits _; simp [setAll]
  | cons p ps ih =>
    intro bits hp
    have hq := hp p (by simp)
    simp only [setAll]
    by_cases b : bits.getD p.toNat false = true
    · rw [set_same bits p.toNat b]
      obtain ⟨h1, h2, h3⟩ := ih bits (fun q h => hp q (by simp [h]))
      refine ⟨h1, by simp only [List.length_cons]; omega, h3.trans ⟨fun h q hq => ?_, fun h q hq => h q (by simp [hq])⟩⟩
      rcases List.mem_cons.1 hq with rfl | hq
      · exact b
      · exact h q hq
    · have hc := count_set bits p.toNat (by omega) (by simpa using b)
      obtain ⟨h1, h2, h3⟩ := ih (bits.set p.toNat true) (fun q h => by simpa using hp q (by simp [h]))
      refine ⟨by omega, by simp only [List.length_cons]; omega, ⟨fun h => by omega, fun h => absurd (h p (by simp)) b⟩⟩

theorem ext_getD (l m : List Bool) (h : l.length = m.length) (hg : ∀ i, i < l.length → l.getD i false = m.getD i false) : l = m := by
  apply List.ext_getElem h
  intro i h1 h2
  have e := hg i h1
  simpa [List.getD_eq_getElem?_getD, h1, h2] using e

/-- both filters' bits, one beside the other -/
theorem zip_setAll (bits : List Bool) (ps : List Int) (hp : ∀ p ∈ ps, 0 ≤ p) : List.zipWith (fun a b => a || b) bits (setAll (List.replicate bits.length false) ps) = setAll bits ps := by
  apply ext_getD
  · simp [setAll_length]
  · intro i hi
    have hi2 : i < bits.length := by simp [setAll_length] at hi; omega
    have h1 := setAll_get ps hp (List.replicate bits.length false) i (by simpa using hi2)
    have h3 : i < (setAll (List.replicate bits.length false) ps).length := by rw [setAll_length]; simpa using hi2
    rw [setAll_get ps hp bits i hi2]
    have hz : (List.zipWith (fun a b => a || b) bits (setAll (List.replicate bits.length false) ps)).getD i false = (bits[i] || (setAll (List.replicate bits.length false) ps)[i]) := by
      rw [List.getD_eq_getElem?_getD, List.getElem?_eq_getElem hi, List.getElem_zipWith]; rfl
    have e1 : (setAll (List.replicate bits.length false) ps).getD i false = (setAll (List.replicate bits.length false) ps)[i] := by rw [List.getD_eq_getElem?_getD, List.getElem?_eq_getElem h3]; rfl
    have e2 : bits.getD i false = bits[i] := by rw [List.getD_eq_getElem?_getD, List.getElem?_eq_getElem hi2]; rfl
    have e3 : (List.replicate bits.length false).getD i false = false := by simp [List.getD_eq_getElem?_getD, hi2]
    rw [hz, ← e1, h1, e2, e3, Bool.false_or]

theorem zip_has (bits : List Bool) (ps : List Int) (hp : ∀ p ∈ ps, 0 ≤ p ∧ p < bits.length) :
    (∀ i, i < bits.length → (bits.getD i false || !(setAll (List.replicate bits.length false) ps).getD i false) = true) ↔ (∀ p ∈ ps, bits.getD p.toNat false = true) := by
  constructor
  · intro h p hq
    have hr := hp p hq
    have h1 := h p.toNat (by omega)
    have e : ((p.toNat : Nat) : Int) = p := by omega
    rw [setAll_get ps (fun q hq => (hp q hq).1) _ _ (by simp; omega), e, decide_eq_true hq] at h1
    simpa using h1
  · intro h i hi
    rw [setAll_get ps (fun q hq => (hp q hq).1) _ _ (by simpa using hi)]
    by_cases c : (i : Int) ∈ ps
    · have := h _ c
      simp at this
      simp [List.getD_eq_getElem?_getD, this]
    · simp [List.getD_eq_getElem?_getD, c, hi]

/-- the bits of both -/
def orAll (a b : List Bool) : List Bool := List.zipWith (fun x y => x || y) a b

theorem orAll_length (a b : List Bool) (h : a.length = b.length) : (orAll a b).length = a.length := by simp [orAll, h]

theorem getD_eq (l : List Bool) (i : Nat) (h : i < l.length) : l.getD i false = l[i] := by
  rw [List.getD_eq_getElem?_getD, List.getElem?_eq_getElem h]; rfl

theorem orAll_get (a b : List Bool) (i : Nat) (h1 : i < a.length) (h2 : i < b.length) : (orAll a b).getD i false = (a.getD i false || b.getD i false) := by
  have h3 : i < (orAll a b).length := by simp [orAll]; omega
  rw [getD_eq _ i h3, getD_eq _ i h1, getD_eq _ i h2]
  simp [orAll]

end Go.Proofs.Ytmlcafnnhpfpaaa.Bloom
