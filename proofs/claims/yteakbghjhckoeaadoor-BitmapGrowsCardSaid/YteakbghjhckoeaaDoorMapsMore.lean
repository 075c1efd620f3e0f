/- Rows of bits, more: how many are set in all, what grows with the bits, the bits of two together. The conditions stand in each lemma. -/
import Derived.Test.YteakbghjhckoeaaDoorMaps
namespace Go.Proofs.YteakbghjhckoeaaDoor.MapsMore
open Go Go.RowKit Go.Proofs.YteakbghjhckoeaaDoorW.PrintWords Go.Proofs.YteakbghjhckoeaaDoorW.PrintMore Go.Proofs.YteakbghjhckoeaaDoor.Hash Go.Proofs.YteakbghjhckoeaaDoor.Maps
set_option linter.unusedSimpArgs false
set_option linter.unusedVariables false

def cntAll : List (List Bool) → Nat
  | [] => 0
  | r :: t => cnt r + cntAll t

theorem cnt_set (r : List Bool) : ∀ c, c < r.length → cnt (r.set c true) ≤ cnt r + 1 := by
  induction r with
  | nil => intro c h; simp at h
  | cons x t ih =>
    intro c h
    cases c with
    | zero => simp only [List.set_cons_zero, cnt]; split <;> omega
    | succ c =>
      have := ih c (by simpa using h)
      simp only [List.set_cons_succ, cnt]
      omega

theorem cntAll_set (rows : List (List Bool)) (v : List Bool) : ∀ i, i < rows.length → cntAll (rows.set i v) + cnt (rows.getD i []) = cntAll rows + cnt v := by
  induction rows with
  | nil => intro i h; simp at h
  | cons x t ih =>
    intro i h
    cases i with
    | zero => simp only [List.set_cons_zero, cntAll, List.getD_cons_zero]; omega
    | succ i =>
      have := ih i (by simpa using h)
      simp only [List.set_cons_succ, cntAll, List.getD_cons_succ]
      omega

theorem cntAll_setB (rows : List (List Bool)) (i c : Nat) (h : i < rows.length) (hc : c < (rows.getD i []).length) : cntAll (setB rows i c) ≤ cntAll rows + 1 := by
  have h1 := cntAll_set rows ((rows.getD i []).set c true) i h
  have h2 := cnt_set (rows.getD i []) c hc
  unfold setB
  omega

theorem cnt_pos (r : List Bool) : ∀ c, r.getD c false = true → 1 ≤ cnt r := by
  induction r with
  | nil => intro c h; simp at h
  | cons x t ih =>
    intro c h
    cases c with
    | zero =>
      have hx : x = true := by simpa using h
      simp only [cnt]; rw [if_pos hx]; omega
    | succ c =>
      have := ih c (by simpa using h)
      simp only [cnt]; omega

theorem cntAll_pos (rows : List (List Bool)) : ∀ i c, bit rows i c = true → 1 ≤ cntAll rows := by
  induction rows with
  | nil => intro i c h; simp [bit] at h
  | cons x t ih =>
    intro i c h
    cases i with
    | zero =>
      have := cnt_pos x c (by simpa [bit] using h)
      simp only [cntAll]; omega
    | succ i =>
      have := ih i c (by simpa [bit] using h)
      simp only [cntAll]; omega

theorem cnt_mono (a : List Bool) : ∀ b : List Bool, a.length = b.length → (∀ c, a.getD c false = true → b.getD c false = true) → cnt a ≤ cnt b := by
  induction a with
  | nil => intro b _ _; simp [cnt]
  | cons x t ih =>
    intro b hl h
    cases b with
    | nil => simp at hl
    | cons y u =>
      have h0 := h 0
      simp only [List.getD_cons_zero] at h0
      have h1 := ih u (by simpa using hl) (fun c hc => by have := h (c + 1) (by simpa using hc); simpa using this)
      simp only [cnt]
      by_cases hx : x = true
      · rw [if_pos hx, if_pos (h0 hx)]; omega
      · rw [if_neg hx]; omega

theorem est_mono (a : List (List Bool)) : ∀ b : List (List Bool), shapeB a b → (∀ r ∈ a, r.length ≤ 256) → (∀ i c, bit a i c = true → bit b i c = true) → est a ≤ est b := by
  induction a with
  | nil =>
    intro b hs _ _
    have : b = [] := by have := hs.1; simp at this; exact List.length_eq_zero_iff.1 this.symm
    rw [this]; exact Int.le_refl _
  | cons x t ih =>
    intro b hs hl h
    cases b with
    | nil => have := hs.1; simp at this
    | cons y u =>
      have hxy : x.length = y.length := by have := hs.2 0; simpa using this
      have hx := hl x (List.mem_cons_self ..)
      have h1 := ih u ⟨by have := hs.1; simpa using this, fun j => by have := hs.2 (j + 1); simpa using this⟩ (fun r hr => hl r (List.mem_cons_of_mem _ hr)) (fun i c hc => by have := h (i + 1) c (by simpa [bit] using hc); simpa [bit] using this)
      have hc := cnt_mono x y hxy (fun c hc => by have := h 0 c (by simpa [bit] using hc); simpa [bit] using this)
      have hcy := cnt_le y
      have hp := partB_mono x.length hx (cnt x) (cnt y - cnt x) (by omega)
      rw [show cnt x + (cnt y - cnt x) = cnt y by omega] at hp
      simp only [est, estRow]
      rw [← hxy]
      omega

theorem est_pos (rows : List (List Bool)) : (∀ r ∈ rows, r.length ≤ 256) → ∀ i c, bit rows i c = true → 65536 ≤ est rows := by
  induction rows with
  | nil => intro _ i c h; simp [bit] at h
  | cons x t ih =>
    intro hl i c h
    have hx := hl x (List.mem_cons_self ..)
    have hlt := fun r hr => hl r (List.mem_cons_of_mem x hr)
    have hrx := estRow_range x hx
    have hrt := est_range t hlt
    simp only [est]
    cases i with
    | zero =>
      have hc := cnt_pos x c (by simpa [bit] using h)
      have hp := partB_range x.length hx (cnt x) (cnt_le x)
      unfold estRow at hrx ⊢
      omega
    | succ i =>
      have := ih hlt i c (by simpa [bit] using h)
      omega

theorem cnt_zero (r : List Bool) (h : ∀ c, r.getD c false = false) : cnt r = 0 := by
  induction r with
  | nil => rfl
  | cons x t ih =>
    have h0 := h 0
    simp only [List.getD_cons_zero] at h0
    have := ih (fun c => by have := h (c + 1); simpa using this)
    simp only [cnt]
    rw [h0, this]; rfl

theorem est_zero (rows : List (List Bool)) (h : ∀ i c, bit rows i c = false) : est rows = 0 ∧ cntAll rows = 0 := by
  induction rows with
  | nil => exact ⟨rfl, rfl⟩
  | cons x t ih =>
    have h0 := cnt_zero x (fun c => by have := h 0 c; simpa [bit] using this)
    have h1 := ih (fun i c => by have := h (i + 1) c; simpa [bit] using this)
    simp only [est, cntAll, estRow]
    rw [h0, h1.1, h1.2]
    exact ⟨rfl, rfl⟩

/-- the bits of both -/
def orRow (r q : List Bool) : List Bool := (List.range r.length).map (fun c => r.getD c false || q.getD c false)
def orRows (a b : List (List Bool)) : List (List Bool) := (List.range a.length).map (fun i => orRow (a.getD i []) (b.getD i []))

theorem orRow_length (r q : List Bool) : (orRow r q).length = r.length := by simp [orRow]
theorem orRow_get (r q : List Bool) (c : Nat) (h : c < r.length) : (orRow r q).getD c false = (r.getD c false || q.getD c false) := by
  simp [orRow, List.getD_eq_getElem?_getD, h]
theorem orRows_length (a b : List (List Bool)) : (orRows a b).length = a.length := by simp [orRows]
theorem orRows_get (a b : List (List Bool)) (i : Nat) (h : i < a.length) : (orRows a b).getD i [] = orRow (a.getD i []) (b.getD i []) := by
  simp [orRows, List.getD_eq_getElem?_getD, h]

theorem orRows_shape (a b : List (List Bool)) : shapeB (orRows a b) a := by
  refine ⟨orRows_length a b, fun j => ?_⟩
  by_cases h : j < a.length
  · rw [orRows_get a b j h, orRow_length]
  · have h1 : (orRows a b).length ≤ j := by rw [orRows_length]; omega
    rw [List.getD_eq_getElem?_getD, List.getD_eq_getElem?_getD, List.getElem?_eq_none h1, List.getElem?_eq_none (by omega)]

theorem getD_short {r : List Bool} {c : Nat} (h : r.length ≤ c) : r.getD c false = false := by
  rw [List.getD_eq_getElem?_getD, List.getElem?_eq_none h]; rfl

theorem orRows_bit (a b : List (List Bool)) (h : shapeB a b) (i c : Nat) : bit (orRows a b) i c = (bit a i c || bit b i c) := by
  have hl := h.2 i
  have hs := (orRows_shape a b).2 i
  unfold bit
  by_cases hi : i < a.length
  · by_cases hc : c < (a.getD i []).length
    · rw [orRows_get a b i hi, orRow_get _ _ c hc]
    · rw [getD_short (r := (orRows a b).getD i []) (by omega), getD_short (r := a.getD i []) (by omega), getD_short (r := b.getD i []) (by omega)]; rfl
  · have e0 : (a.getD i []).length = 0 := by
      rw [List.getD_eq_getElem?_getD, List.getElem?_eq_none (by omega)]; rfl
    rw [getD_short (r := (orRows a b).getD i []) (by omega), getD_short (r := a.getD i []) (by omega), getD_short (r := b.getD i []) (by omega)]; rfl
end Go.Proofs.YteakbghjhckoeaaDoor.MapsMore
