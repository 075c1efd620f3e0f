/- Plain linear algebra over numbers modulo n without divisors of nought: spans, leads, how many leads there are (the rank). The condition stands in each lemma: a product is 0 only if a factor is. -/
namespace Go.Proofs.Ytoplnkbhgpamaaa.Lin

variable {n : Nat} [NeZero n]

abbrev Vec (n : Nat) := Nat → Fin n

inductive Sp (L : List (Vec n)) : Vec n → Prop
  | zero : Sp L (fun _ => 0)
  | add (c : Fin n) (r v : Vec n) (hr : r ∈ L) (hv : Sp L v) : Sp L (fun j => v j + c * r j)

theorem Sp.ext {L : List (Vec n)} {v w : Vec n} (h : Sp L v) (e : ∀ j, w j = v j) : Sp L w := by
  have : w = v := funext e
  rw [this]; exact h

theorem Sp.comb {L : List (Vec n)} {v w : Vec n} (c d : Fin n) (hv : Sp L v) (hw : Sp L w) : Sp L (fun j => c * v j + d * w j) := by
  induction hv with
  | zero =>
    induction hw with
    | zero => exact Sp.zero.ext (fun j => by grind)
    | add a r v hr hv ih => exact (Sp.add (d * a) r _ hr ih).ext (fun j => by grind)
  | add a r v hr hv ih => exact (Sp.add (c * a) r _ hr ih).ext (fun j => by grind)

theorem Sp.mem {L : List (Vec n)} {r : Vec n} (h : r ∈ L) : Sp L r :=
  (Sp.add 1 r _ h Sp.zero).ext (fun j => by grind)

theorem Sp.mono {L M : List (Vec n)} (h : ∀ r ∈ L, Sp M r) {v : Vec n} (hv : Sp L v) : Sp M v := by
  induction hv with
  | zero => exact Sp.zero
  | add c r v hr hv ih => exact (Sp.comb 1 c ih (h r hr)).ext (fun j => by grind)

/-- linear properties hold in the span -/
theorem Sp.ind {L : List (Vec n)} (Q : Vec n → Prop) (h0 : Q (fun _ => 0)) (hadd : ∀ c r v, Q r → Q v → Q (fun j => v j + c * r j))
    (hL : ∀ r ∈ L, Q r) {v : Vec n} (hv : Sp L v) : Q v := by
  induction hv with
  | zero => exact h0
  | add c r v hr hv ih => exact hadd c r v (hL r hr) ih

def IsLead (v : Vec n) (c : Nat) : Prop := v c ≠ 0 ∧ ∀ j, j < c → v j = 0

def Lead (L : List (Vec n)) (c : Nat) : Prop := ∃ v, Sp L v ∧ IsLead v c

open Classical in
noncomputable def count (p : Nat → Prop) : Nat → Nat
  | 0 => 0
  | m + 1 => count p m + if p m then 1 else 0

theorem count_congr {p q : Nat → Prop} (m : Nat) (h : ∀ c, c < m → (p c ↔ q c)) : count p m = count q m := by
  induction m with
  | zero => rfl
  | succ m ih =>
    have e := ih (fun c hc => h c (by omega))
    have e2 : p m ↔ q m := h m (by omega)
    unfold count
    rw [e]
    by_cases hp : p m
    · rw [if_pos hp, if_pos (e2.1 hp)]
    · rw [if_neg hp, if_neg (fun hq => hp (e2.2 hq))]

theorem count_mono {p q : Nat → Prop} (m : Nat) (h : ∀ c, c < m → p c → q c) : count p m ≤ count q m := by
  induction m with
  | zero => exact Nat.le_refl _
  | succ m ih =>
    have e := ih (fun c hc => h c (by omega))
    have e2 : p m → q m := h m (by omega)
    unfold count
    by_cases hp : p m
    · rw [if_pos hp, if_pos (e2 hp)]; omega
    · rw [if_neg hp]; split <;> omega

theorem count_le (p : Nat → Prop) (m : Nat) : count p m ≤ m := by
  induction m with
  | zero => exact Nat.le_refl _
  | succ m ih => unfold count; split <;> omega

theorem count_list (p : Nat → Prop) : ∀ (m : Nat) (l : List Nat), l.Nodup → (∀ c ∈ l, c < m) → (∀ c, c < m → (p c ↔ c ∈ l)) → count p m = l.length := by
  intro m
  induction m with
  | zero =>
    intro l _ h _
    cases l with
    | nil => rfl
    | cons a l => exact absurd (h a (by simp)) (by omega)
  | succ m ih =>
    intro l hn hl hp
    unfold count
    by_cases hm : m ∈ l
    · rw [if_pos ((hp m (by omega)).2 hm)]
      have e := ih (l.erase m) (hn.erase m) (fun c hc => by
        have h1 := (hn.mem_erase_iff).1 hc
        have h2 := hl c h1.2
        omega) (fun c hc => by
        rw [hn.mem_erase_iff, hp c (by omega)]
        constructor
        · intro h; exact ⟨by omega, h⟩
        · intro h; exact h.2)
      rw [e, List.length_erase_of_mem hm]
      have : 0 < l.length := List.length_pos_of_mem hm
      omega
    · rw [if_neg (fun h => hm ((hp m (by omega)).1 h))]
      exact ih l hn (fun c hc => by
        have h1 := hl c hc
        have h2 : c ≠ m := fun h => hm (h ▸ hc)
        omega) (fun c hc => hp c (by omega))

noncomputable def rank (L : List (Vec n)) (cols : Nat) : Nat := count (Lead L) cols

theorem Lead.mono {L M : List (Vec n)} (h : ∀ r ∈ L, Sp M r) {c : Nat} : Lead L c → Lead M c :=
  fun ⟨v, hv, hc⟩ => ⟨v, Sp.mono h hv, hc⟩

theorem rank_mono {L M : List (Vec n)} (h : ∀ r ∈ L, Sp M r) (cols : Nat) : rank L cols ≤ rank M cols :=
  count_mono cols fun _ _ => Lead.mono h

theorem rank_eq {L M : List (Vec n)} (h : ∀ r ∈ L, Sp M r) (g : ∀ r ∈ M, Sp L r) (cols : Nat) : rank L cols = rank M cols :=
  Nat.le_antisymm (rank_mono h cols) (rank_mono g cols)

/-- rows that agree ahead of a column have the same span there -/
theorem Sp.agree {L M : List (Vec n)} (cols : Nat) (h : ∀ r ∈ L, ∃ s, Sp M s ∧ ∀ j, j < cols → s j = r j) {v : Vec n} (hv : Sp L v) :
    ∃ w, Sp M w ∧ ∀ j, j < cols → w j = v j := by
  induction hv with
  | zero => exact ⟨_, Sp.zero, fun _ _ => rfl⟩
  | add c r v hr hv ih =>
    obtain ⟨w, hw, ew⟩ := ih
    obtain ⟨s, hs, es⟩ := h r hr
    refine ⟨_, Sp.comb 1 c hw hs, fun j hj => ?_⟩
    show 1 * w j + c * s j = v j + c * r j
    rw [ew j hj, es j hj]; grind

theorem rank_le_agree {L M : List (Vec n)} (cols : Nat) (h : ∀ r ∈ L, ∃ s, Sp M s ∧ ∀ j, j < cols → s j = r j) : rank L cols ≤ rank M cols := by
  refine count_mono cols fun c hc hL => ?_
  obtain ⟨v, hv, hc1, hc2⟩ := hL
  obtain ⟨w, hw, ew⟩ := Sp.agree cols h hv
  exact ⟨w, hw, by rw [ew c hc]; exact hc1, fun j hj => by rw [ew j (by omega)]; exact hc2 j hj⟩

def NoZero (n : Nat) [NeZero n] : Prop := ∀ a b : Fin n, a * b = 0 → a = 0 ∨ b = 0

/-- the span of one row more -/
theorem Sp.cons {b : Vec n} {L : List (Vec n)} {v : Vec n} (hv : Sp (b :: L) v) : ∃ a w, Sp L w ∧ ∀ j, v j = w j + a * b j := by
  induction hv with
  | zero => exact ⟨0, _, Sp.zero, fun j => by grind⟩
  | add c r v hr hv ih =>
    obtain ⟨a, w, hw, e⟩ := ih
    rcases List.mem_cons.1 hr with rfl | hr
    · exact ⟨a + c, w, hw, fun j => by have := e j; grind⟩
    · exact ⟨a, _, Sp.add c r w hr hw, fun j => by have := e j; grind⟩

/-- rows with unlike leads: each lead of the span is one of theirs -/
theorem leads (hz : NoZero n) : ∀ (B : List (Vec n × Nat)), (B.map (·.2)).Nodup → (∀ x ∈ B, IsLead x.1 x.2) →
    ∀ v c, Sp (B.map (·.1)) v → IsLead v c → c ∈ B.map (·.2) := by
  intro B
  induction B with
  | nil =>
    intro _ _ v c hv hc
    have : ∀ j, v j = 0 := by
      have := Sp.ind (L := ([] : List (Vec n))) (fun v => ∀ j, v j = 0) (fun _ => rfl) (fun c r v hr hv j => by have := hr j; have := hv j; grind) (by simp) (by simpa using hv)
      exact this
    exact absurd (this c) hc.1
  | cons x B ih =>
    intro hn hB v c hv hc
    obtain ⟨b, p⟩ := x
    have hb : IsLead b p := hB (b, p) (by simp)
    have hn' : p ∉ B.map (·.2) ∧ (B.map (·.2)).Nodup := by simpa using hn
    have ih' := ih hn'.2 (fun x hx => hB x (by simp [hx]))
    obtain ⟨a, w, hw, e⟩ := Sp.cons (by simpa using hv)
    by_cases hcp : c = p
    · simp [hcp]
    · have goal : c ∈ B.map (·.2) := by
        by_cases hlt : c < p
        · refine ih' w c hw ⟨?_, fun j hj => ?_⟩
          · have h1 := e c; have h2 := hb.2 c hlt; have h3 := hc.1; rw [h1, h2] at h3; grind
          · have h1 := e j; have h2 := hb.2 j (by omega); have h3 := hc.2 j hj; rw [h1, h2] at h3; grind
        · by_cases ha : a = 0
          · refine ih' w c hw ⟨?_, fun j hj => ?_⟩
            · have h1 := e c; have h3 := hc.1; rw [h1, ha] at h3; grind
            · have h1 := e j; have h3 := hc.2 j hj; rw [h1, ha] at h3; grind
          · exfalso
            refine hn'.1 (ih' w p hw ⟨?_, fun j hj => ?_⟩)
            · intro hwp
              have h1 := e p; have h3 := hc.2 p (by omega)
              have h4 : a * b p = 0 := by rw [h1, hwp] at h3; grind
              rcases hz _ _ h4 with h5 | h5
              · exact ha h5
              · exact hb.1 h5
            · have h1 := e j; have h2 := hb.2 j hj; have h3 := hc.2 j (by omega); rw [h1, h2] at h3; grind
      simp only [List.map_cons, List.mem_cons]; exact Or.inr goal

/-- the rank of rows with unlike leads and of rows that are nought up to cols -/
theorem rank_of (hz : NoZero n) (B : List (Vec n × Nat)) (Z : List (Vec n)) (cols : Nat) (hn : (B.map (·.2)).Nodup) (hB : ∀ x ∈ B, IsLead x.1 x.2)
    (hlt : ∀ x ∈ B, x.2 < cols) (hZ : ∀ r ∈ Z, ∀ j, j < cols → r j = 0) : rank (B.map (·.1) ++ Z) cols = B.length := by
  have : B.length = (B.map (·.2)).length := by simp
  rw [this]
  refine count_list _ cols _ hn (fun c hc => ?_) (fun c hc => ⟨fun h => ?_, fun h => ?_⟩)
  · obtain ⟨x, hx, rfl⟩ := List.mem_map.1 hc; exact hlt x hx
  · obtain ⟨v, hv, h1, h2⟩ := h
    obtain ⟨w, hw, ew⟩ := Sp.agree (M := B.map (·.1)) cols (fun r hr => by
      rcases List.mem_append.1 hr with h | h
      · exact ⟨r, Sp.mem h, fun _ _ => rfl⟩
      · exact ⟨_, Sp.zero, fun j hj => (hZ r h j hj).symm⟩) hv
    exact leads hz B hn hB w c hw ⟨by rw [ew c hc]; exact h1, fun j hj => by rw [ew j (by omega)]; exact h2 j hj⟩
  · obtain ⟨x, hx, rfl⟩ := List.mem_map.1 h
    exact ⟨x.1, Sp.mem (by simp; exact Or.inl ⟨x.2, hx⟩), hB x hx⟩

end Go.Proofs.Ytoplnkbhgpamaaa.Lin
