/- Rows of numbers of a call's own, no two of which are one: a row read, a number of a row written, two rows exchanged. The conditions stand in each lemma. -/
import Derived.Test.YtoplnkbhgpamaaaWMore
namespace Go.Proofs.Ytoplnkbhgpamaaa.Grid
open Go Go.RowKit Go.Proofs.YtoplnkbhgpamaaaW.PrintWords Go.Proofs.YtoplnkbhgpamaaaW.PrintMore
set_option linter.unusedSimpArgs false
set_option linter.unusedVariables false

variable {W : World} {base N cap e e1 : Nat} {ok : Nat → Prop} {m : List (List Int)} {A : Option Addr}

abbrev Own (e e1 : Nat) (W : World) (base : Nat) (ok : Nat → Prop) (v : Value) (m : List (List Int)) : Prop := Kd.S (Kd.slice e (Kd.int .u64)) e1 W base ok v m

theorem own_len (h : Own e e1 W base ok (.slice A N cap) m) : N = m.length := (Kd.S_reads' h).1

/-- a row, read -/
theorem row (h : Own e e1 W base ok (.slice A N cap) m) (i : Int) (h0 : 0 ≤ i) (h1 : i < (m.length : Int)) :
    ∃ g A1 c1, A = some ⟨g, 0, none⟩ ∧ W.cell? ⟨g, i.toNat, none⟩ = some (.slice A1 (m.getD i.toNat []).length c1) ∧ (m.getD i.toNat []).length ≤ c1 ∧ (Kd.int .u64).C W A1 (m.getD i.toNat []).length (m.getD i.toNat []) := by
  obtain ⟨_, _, hC⟩ := Kd.S_reads' h
  obtain ⟨ad, c, ea, _, hK, hc0⟩ := Kd.C_get hC ([] : List Int) i h0 h1
  subst ea
  obtain ⟨g, rfl⟩ := Kd.R_head (Kd.S_R h)
  have hc : ∀ j u, c[j]? = some u → W.cell? ((⟨g, 0, none⟩ : Addr).add (i.toNat * 1 + j)) = some u := hc0
  obtain ⟨A0, c0, rfl, l0, g0⟩ := hK
  refine ⟨g, A0, c0, rfl, ?_, l0, g0⟩
  have hq := hc 0 _ rfl
  rwa [Nat.mul_one, Nat.add_zero, add_plain] at hq

/-- a number of a row, written -/
theorem put (h : Own e e1 W base ok (.slice A N cap) m) (i j : Int) (h0 : 0 ≤ i) (h1 : i < (m.length : Int)) (g0 : 0 ≤ j) (g1 : j < ((m.getD i.toNat []).length : Int)) :
    ∃ g b c1, A = some ⟨g, 0, none⟩ ∧ W.cell? ⟨g, i.toNat, none⟩ = some (.slice (some ⟨b, 0, none⟩) (m.getD i.toNat []).length c1) ∧ W.cell? ⟨b, j.toNat, none⟩ = some (.int .u64 (rd (m.getD i.toNat []) j)) ∧ W.frozen? ⟨b, j.toNat, none⟩ = false ∧
      base ≤ b ∧ (∃ cells, W.heap[b]? = some (.cells cells e (0, 0))) ∧ ∀ nv, Own e e1 (W.setCell ⟨b, j.toNat, none⟩ (.int .u64 nv)) base ok (.slice A N cap) (m.set i.toNat ((m.getD i.toNat []).set j.toNat nv)) := by
  have hN := own_len h
  obtain ⟨g, A1, c1, rfl, hx, hl, hi⟩ := row h i h0 h1
  obtain ⟨oki, cc, hcl, hM, hcc, hoki, hback⟩ := Kd.S_borrow h [] i h0 (by omega)
  obtain ⟨v4, rfl, hR⟩ := hM
  have hv := hcc 0 _ rfl
  rw [Nat.add_zero, show ((Kd.slice e (Kd.int .u64))).sz = 1 from rfl, Nat.mul_one, add_plain] at hv
  replace hv := Option.some.inj (hv.symm.trans hx)
  subst hv
  have hR2 : (Kd.int .u64).R e W base oki (.slice A1 (m.getD i.toNat []).length c1) (m.getD i.toNat []) := hR
  obtain ⟨b, cap1, eg, hg1, hg2, cells, hcells⟩ := Kd.R_form hR2 (by omega)
  cases eg
  have hc5 := Kd.R_celln 0 hR2 j g0 g1
  refine ⟨g, b, c1, rfl, hx, hc5.1, hc5.2, hg1, ⟨cells, hcells⟩, fun nv => ?_⟩
  have RP := Kd.R_put hR2 j nv
  exact hback RP.2 (fun k_ hk_ => hR2.1 k_ (by rw [← hk_]; rfl)) ⟨_, rfl, RP.1⟩

theorem drop_one (inner : List Value) (q : Nat) (u : Value) (h : inner[q]? = some u) : (inner.drop (q * 1)).take 1 = [u] := by
  rw [Nat.mul_one]
  obtain ⟨hl, e⟩ := List.getElem?_eq_some_iff.1 h
  rw [List.drop_eq_getElem_cons hl, List.take_succ_cons, List.take_zero, e]

/-- two rows exchanged -/
theorem swap (h : Own e e1 W base ok (.slice A N cap) m) (i j : Int) (h0 : 0 ≤ i) (h1 : i < (m.length : Int)) (g0 : 0 ≤ j) (g1 : j < (m.length : Int)) :
    ∃ g, A = some ⟨g, 0, none⟩ ∧ base ≤ g ∧ (∃ cells, W.heap[g]? = some (.cells cells e1 (0, 0))) ∧ (∀ q, W.frozen? ⟨g, q, none⟩ = false) ∧ (∀ vj, ∀ q, (W.setCell ⟨g, i.toNat, none⟩ vj).frozen? ⟨g, q, none⟩ = false) ∧
      ∀ vi vj, W.cell? ⟨g, i.toNat, none⟩ = some vi → W.cell? ⟨g, j.toNat, none⟩ = some vj →
        Own e e1 ((W.setCell ⟨g, i.toNat, none⟩ vj).setCell ⟨g, j.toNat, none⟩ vi) base ok (.slice A N cap) ((m.set i.toNat (m.getD j.toNat [])).set j.toNat (m.getD i.toNat [])) := by
  have hN := own_len h
  obtain ⟨g, cap', eg, hb, hlt, cells, hcells⟩ := Kd.S_form h (by omega)
  cases eg
  obtain ⟨f, hok0, inner, ho, hr⟩ := h
  rw [List.length_zipIdx] at ho
  have hlen : inner.length = m.length := by have := hr.1; rw [List.length_zipIdx] at this; rw [this]; exact Nat.mul_one _
  have ho' : W.ownsRow base e1 1 (.slice (some ⟨g, 0, none⟩) m.length cap) m.length inner := ho
  have hfz := fun q => ho'.frozenAt q
  refine ⟨g, rfl, hb, ⟨cells, hcells⟩, hfz, fun vj q => (ho'.stored i.toNat vj).1.frozenAt q, fun vi vj hi hj => ?_⟩
  have hil : i.toNat < m.length := by omega
  have hjl : j.toNat < m.length := by omega
  have ei : inner[i.toNat]? = some vi := by rw [← ho'.cellAt i.toNat (by omega)]; exact hi
  have ej : inner[j.toNat]? = some vj := by rw [← ho'.cellAt j.toNat (by omega)]; exact hj
  have hs1 := ho'.stored i.toNat vj
  have hs2 := hs1.1.stored j.toNat vi
  have hmv : ∀ k, k ≠ g → ((W.setCell ⟨g, i.toNat, none⟩ vj).setCell ⟨g, j.toNat, none⟩ vi).heap[k]? = W.heap[k]? := fun k hk => by
    rw [Below.heap_setCell _ _ _ _ (by simpa using hk), Below.heap_setCell _ _ _ _ (by simpa using hk)]
  have hown : ∀ k, some k ≠ (Value.slice (some ⟨g, 0, none⟩) m.length cap).ownBlock → k ≠ g := fun k hk he => hk (by subst he; simp [Value.ownBlock])
  have hlen2 : ((m.set i.toNat (m.getD j.toNat [])).set j.toNat (m.getD i.toNat [])).length = m.length := by simp
  refine ⟨fun b => if f b = i.toNat then j.toNat else if f b = j.toNat then i.toNat else f b, hok0, (inner.set i.toNat vj).set j.toNat vi, by rw [List.length_zipIdx, hlen2]; exact hs2.1, by rw [List.length_zipIdx, hlen2, show ((Kd.tag (fun b => if f b = i.toNat then j.toNat else if f b = j.toNat then i.toNat else f b) (Kd.slice e (Kd.int .u64))).sz) = 1 from rfl]; simpa using hlen, fun q p hq => ?_⟩
  rw [List.getElem?_zipIdx, Nat.zero_add] at hq
  obtain ⟨x, hx, rfl⟩ := Option.map_eq_some_iff.1 hq
  have hql : q < m.length := by have := (List.getElem?_eq_some_iff.1 hx).1; rwa [hlen2] at this
  -- what a row q0 of old is, at the cell that holds it now
  have key : ∀ q0, q0 < m.length → True → ((inner.set i.toNat vj).set j.toNat vi)[q]? = inner[q0]? → (∀ b, f b = q0 → (if f b = i.toNat then j.toNat else if f b = j.toNat then i.toNat else f b) = q) → x = m.getD q0 [] →
      (Kd.slice e (Kd.int .u64)).M ((W.setCell ⟨g, i.toNat, none⟩ vj).setCell ⟨g, j.toNat, none⟩ vi) base (fun k => (ok k ∧ some k ≠ (Value.slice (some ⟨g, 0, none⟩) m.length cap).ownBlock) ∧ (if f k = i.toNat then j.toNat else if f k = j.toNat then i.toNat else f k) = q) x ((((inner.set i.toNat vj).set j.toNat vi).drop (q * 1)).take 1) := by
    intro q0 hq0 _ hin hf hx0
    have hq0' : q0 < inner.length := by omega
    rw [List.getElem?_eq_getElem hq0'] at hin
    rw [drop_one _ _ _ hin, hx0]
    have hold := hr.2 q0 _ (Kd.zip_at (List.getElem?_eq_getElem hq0))
    have hold' : (Kd.slice e (Kd.int .u64)).M W base (fun k => (ok k ∧ some k ≠ (Value.slice (some ⟨g, 0, none⟩) m.length cap).ownBlock) ∧ f k = q0) (m[q0]) ((inner.drop (q0 * 1)).take 1) := hold
    rw [drop_one _ _ _ (List.getElem?_eq_getElem hq0')] at hold'
    have em : m.getD q0 [] = m[q0] := by rw [List.getD_eq_getElem?_getD, List.getElem?_eq_getElem hq0]; rfl
    rw [em]
    refine Kd.M_mono _ (fun k hk => ⟨hk.1, hf k hk.2⟩) (Kd.M_move _ (fun k hk => hmv k (hown k hk.1.2)) hold')
  by_cases e2 : q = j.toNat
  · refine key i.toNat hil trivial ?_ (fun b hb => by rw [if_pos hb, e2]) ?_
    · rw [e2, List.getElem?_set_self (by simp; omega), ei]
    · rw [e2, List.getElem?_set_self (by simp; omega)] at hx
      exact (Option.some.inj hx).symm
  · by_cases e3 : q = i.toNat
    · refine key j.toNat hjl trivial ?_ (fun b hb => by rw [hb, if_neg (fun h => e2 (e3.trans h.symm)), if_pos rfl, e3]) ?_
      · rw [List.getElem?_set_ne (fun h => e2 h.symm), e3, List.getElem?_set_self (by omega), ej]
      · rw [List.getElem?_set_ne (fun h => e2 h.symm), e3, List.getElem?_set_self (by omega)] at hx
        exact (Option.some.inj hx).symm
    · refine key q hql trivial ?_ (fun b hb => by rw [hb, if_neg e3, if_neg e2]) ?_
      · rw [List.getElem?_set_ne (fun h => e2 h.symm), List.getElem?_set_ne (fun h => e3 h.symm)]
      · rw [List.getElem?_set_ne (fun h => e2 h.symm), List.getElem?_set_ne (fun h => e3 h.symm)] at hx
        rw [List.getD_eq_getElem?_getD, hx]; rfl

end Go.Proofs.Ytoplnkbhgpamaaa.Grid
