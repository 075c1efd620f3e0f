/- Filters in plain lists: the places of a key, bits set at places, are all bits of places set. The conditions stand in each lemma. -/
import Derived.Test.YtmlcafnnhpfpaaaWWords
import Derived.Test.YtmlcafnnhpfpaaaHash
namespace Go.Proofs.Ytmlcafnnhpfpaaa.Bloom
open Go Go.RowKit Go.Proofs.YtmlcafnnhpfpaaaW.PrintWords Go.Proofs.Ytmlcafnnhpfpaaa.Hash
set_option linter.unusedSimpArgs false

/-- the places of a key: one for each hash -/
def placesOf (seed hs : Int) (n : Nat) (key : ByteArray) : List Int := (List.range' 0 hs.toNat).map (fun (i : Nat) => hcell (hrow seed (i : Int)) key n)

/-- bits with those at places set -/
def setAll (bits : List Bool) : List Int → List Bool
  | [] => bits
  | p :: ps => setAll (bits.set p.toNat true) ps

theorem setAll_length (ps : List Int) : ∀ bits : List Bool, (setAll bits ps).length = bits.length := by
  induction ps with
  | nil => intro bits; rfl
  | cons p ps ih => intro bits; simp [setAll, ih]

theorem placesOf_length (seed hs : Int) (n : Nat) (key : ByteArray) : (placesOf seed hs n key).length = hs.toNat := by simp [placesOf]

theorem placesOf_range (seed hs : Int) (n : Nat) (key : ByteArray) (h : 1 ≤ n) : ∀ p ∈ placesOf seed hs n key, 0 ≤ p ∧ p < n := by
  intro p hp
  unfold placesOf at hp
  obtain ⟨i, _, rfl⟩ := List.mem_map.1 hp
  exact hcell_range _ _ _ (by omega)

/-- is bit p among the places? -/
theorem setAll_get (ps : List Int) (hp : ∀ p ∈ ps, 0 ≤ p) : ∀ (bits : List Bool) (i : Nat), i < bits.length → (setAll bits ps).getD i false = (bits.getD i false || decide ((i : Int) ∈ ps)) := by
  induction ps with
  | nil => intro bits i hi; simp [setAll]
  | cons p ps ih =>
    intro bits i hi
    have hp0 := hp p (by simp)
    simp only [setAll]
    rw [ih (fun q hq => hp q (by simp [hq])) _ i (by simpa using hi)]
    by_cases e : p.toNat = i
    · have e2 : (i : Int) = p := by omega
      simp [List.getD_eq_getElem?_getD, e, hi, e2]
    · have e2 : ¬ (i : Int) = p := by omega
      simp [List.getD_eq_getElem?_getD, List.getElem?_set, e, e2]

theorem set_same (bits : List Bool) : ∀ (p : Nat), bits.getD p false = true → bits.set p true = bits := by
  induction bits with
  | nil => intro p h; simp at h
  | cons b bits ih =>
    intro p h
    cases p with
    | zero => simp at h; simp [h]
    | succ p => simp at h; simp [ih p (by simpa using h)]

theorem count_set (bits : List Bool) : ∀ (p : Nat), p < bits.length → bits.getD p false = false → (bits.set p true).count true = bits.count true + 1 := by
  induction bits with
  | nil => intro p h; simp at h
  | cons b bits ih =>
    intro p h hb
    cases p with
    | zero => simp at hb; simp [hb]
    | succ p =>
      have h2 := ih p (by simpa using h) (by simpa using hb)
      simp only [List.set_cons_succ, List.count_cons, h2]
      omega

theorem count_setAll (ps : List Int) : ∀ (bits : List Bool), (∀ p ∈ ps, 0 ≤ p ∧ p < bits.length) → bits.count true ≤ (setAll bits ps).count true ∧ (setAll bits ps).count true ≤ bits.count true + ps.length ∧
    ((setAll bits ps).count true = bits.count true ↔ ∀ p ∈ ps, bits.getD p.toNat false = true) := by
  induction ps with
  | nil => intro bits _; simp [setAll]
  | cons p ps ih =>
    intro bits hp
    have hq := hp p (by simp)
    simp only [setAll]
    by_cases b : bits.getD p.toNat false = true
    · rw [set_same bits p.toNat b]
      obtain ⟨h1, h2, h3⟩ := ih bits (fun q h => hp q (by simp [h]))
      refine ⟨h1, by simp only [List.length_cons]; omega, h3.trans ⟨fun h q hq => ?_, fun h q hq => h q (by simp [hq])⟩⟩
      rcases List.mem_cons.1 hq with rfl | hq
      · exact b
      · exact h q hq
    · have hc := count_set bits p.toNat (by omega) (by simpa using b)
      obtain ⟨h1, h2, h3⟩ := ih (bits.set p.toNat true) (fun q h => by simpa using hp q (by simp [h]))
      refine ⟨by omega, by simp only [List.length_cons]; omega, ⟨fun h => by omega, fun h => absurd (h p (by simp)) b⟩⟩

end Go.Proofs.Ytmlcafnnhpfpaaa.Bloom
