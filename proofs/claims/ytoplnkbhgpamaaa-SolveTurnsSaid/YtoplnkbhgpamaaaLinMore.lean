/- Rows taken up one behind the other, each without what those ahead of it have: how many are left is the rank. -/
import Derived.Test.YtoplnkbhgpamaaaLin
namespace Go.Proofs.Ytoplnkbhgpamaaa.Lin

variable {n : Nat} [NeZero n]

def less (g : Fin n → Fin n) (v : Vec n) (B : List (Vec n × Nat)) : Vec n :=
  B.foldl (fun v x => fun j => v j - (v x.2 * g (x.1 x.2)) * x.1 j) v

theorem less_keep (g : Fin n → Fin n) (p : Nat) : ∀ (B : List (Vec n × Nat)) (v : Vec n), (∀ x ∈ B, x.1 p = 0) → v p = 0 → less g v B p = 0 := by
  intro B
  induction B with
  | nil => intro v _ h; exact h
  | cons x B ih =>
    intro v h hv
    refine ih _ (fun y hy => h y (by simp [hy])) ?_
    have := h x (by simp)
    show v p - (v x.2 * g (x.1 x.2)) * x.1 p = 0
    rw [hv, this]; grind

theorem less_zero (g : Fin n → Fin n) (hg : ∀ a : Fin n, a ≠ 0 → a * g a = 1) : ∀ (B : List (Vec n × Nat)) (v : Vec n), B.Pairwise (fun a b => b.1 a.2 = 0) → (∀ x ∈ B, IsLead x.1 x.2) →
    ∀ x ∈ B, less g v B x.2 = 0 := by
  intro B
  induction B with
  | nil => intro v _ _ x hx; simp at hx
  | cons b B ih =>
    intro v hp hl x hx
    have hp' := List.pairwise_cons.1 hp
    rcases List.mem_cons.1 hx with rfl | hx
    · refine less_keep g x.2 B _ (fun y hy => hp'.1 y hy) ?_
      have h1 := hg _ (hl x (by simp)).1
      show v x.2 - (v x.2 * g (x.1 x.2)) * x.1 x.2 = 0
      grind
    · exact ih _ hp'.2 (fun y hy => hl y (by simp [hy])) x hx

theorem less_sp (g : Fin n → Fin n) (L : List (Vec n)) : ∀ (B : List (Vec n × Nat)) (v : Vec n), (∀ x ∈ B, Sp L x.1) → (Sp L v ↔ Sp L (less g v B)) := by
  intro B
  induction B with
  | nil => intro v _; exact Iff.rfl
  | cons b B ih =>
    intro v h
    have hb := h b (by simp)
    have e := ih (fun j => v j - (v b.2 * g (b.1 b.2)) * b.1 j) (fun y hy => h y (by simp [hy]))
    refine Iff.trans ?_ e
    constructor
    · intro hv
      exact (Sp.comb 1 (- (v b.2 * g (b.1 b.2))) hv hb).ext (fun j => by grind)
    · intro hv
      exact (Sp.comb 1 (v b.2 * g (b.1 b.2)) hv hb).ext (fun j => by grind)

/-- B: rows with leads, none with a number at an elder's lead, of L's span -/
structure BaseOf (L : List (Vec n)) (B : List (Vec n × Nat)) : Prop where
  pw : B.Pairwise (fun a b => b.1 a.2 = 0)
  lead : ∀ x ∈ B, IsLead x.1 x.2
  into : ∀ r ∈ L, Sp (B.map (·.1)) r
  back : ∀ x ∈ B, Sp L x.1

theorem BaseOf.nil : BaseOf ([] : List (Vec n)) [] := ⟨List.Pairwise.nil, by simp, by simp, by simp⟩

theorem BaseOf.nodup {L : List (Vec n)} {B : List (Vec n × Nat)} (h : BaseOf L B) : (B.map (·.2)).Nodup := by
  have h1 := h.pw
  have h2 := h.lead
  clear h
  induction B with
  | nil => simp
  | cons b B ih =>
    have hp' := List.pairwise_cons.1 h1
    simp only [List.map_cons, List.nodup_cons]
    refine ⟨fun hm => ?_, ih hp'.2 (fun x hx => h2 x (by simp [hx]))⟩
    obtain ⟨x, hx, e⟩ := List.mem_map.1 hm
    have := hp'.1 x hx
    exact (h2 x (by simp [hx])).1 (by rw [e]; exact this)

theorem BaseOf.rank (hz : NoZero n) {L : List (Vec n)} {B : List (Vec n × Nat)} (h : BaseOf L B) (cols : Nat) (hc : ∀ x ∈ B, x.2 < cols) : rank L cols = B.length := by
  have e := rank_of hz B [] cols h.nodup h.lead hc (by simp)
  rw [List.append_nil] at e
  rw [← e]
  exact rank_eq h.into (fun r hr => by obtain ⟨x, hx, rfl⟩ := List.mem_map.1 hr; exact h.back x hx) cols

theorem BaseOf.skip (g : Fin n → Fin n) {L : List (Vec n)} {B : List (Vec n × Nat)} (h : BaseOf L B) (v : Vec n) (hv : ∀ j, less g v B j = 0) : BaseOf (L ++ [v]) B := by
  refine ⟨h.pw, h.lead, fun r hr => ?_, fun x hx => Sp.mono (fun r hr => Sp.mem (by simp [hr])) (h.back x hx)⟩
  rcases List.mem_append.1 hr with hr | hr
  · exact h.into r hr
  · have : r = v := by simpa using hr
    subst this
    refine (less_sp g _ B r (fun x hx => Sp.mem (List.mem_map.2 ⟨x, hx, rfl⟩))).2 ?_
    exact Sp.zero.ext hv

theorem BaseOf.more (g : Fin n → Fin n) (hg : ∀ a : Fin n, a ≠ 0 → a * g a = 1) {L : List (Vec n)} {B : List (Vec n × Nat)} (h : BaseOf L B) (v : Vec n) (c : Nat) (hc : IsLead (less g v B) c) : BaseOf (L ++ [v]) (B ++ [(less g v B, c)]) := by
  have hz := less_zero g hg B v h.pw h.lead
  refine ⟨?_, ?_, fun r hr => ?_, fun x hx => ?_⟩
  · refine List.pairwise_append.2 ⟨h.pw, List.pairwise_singleton _ _, fun a ha b hb => ?_⟩
    have : b = (less g v B, c) := by simpa using hb
    subst this
    exact hz a ha
  · intro x hx
    rcases List.mem_append.1 hx with hx | hx
    · exact h.lead x hx
    · have : x = (less g v B, c) := by simpa using hx
      subst this
      exact hc
  · have hm : ∀ x ∈ B, Sp ((B ++ [(less g v B, c)]).map (·.1)) x.1 := fun x hx => Sp.mem (List.mem_map.2 ⟨x, by simp [hx], rfl⟩)
    rcases List.mem_append.1 hr with hr | hr
    · exact Sp.mono (fun q hq => by obtain ⟨x, hx, rfl⟩ := List.mem_map.1 hq; exact hm x hx) (h.into r hr)
    · have : r = v := by simpa using hr
      subst this
      exact (less_sp g _ B r hm).2 (Sp.mem (List.mem_map.2 ⟨(less g r B, c), by simp, rfl⟩))
  · have hm : ∀ x ∈ B, Sp (L ++ [v]) x.1 := fun x hx => Sp.mono (fun r hr => Sp.mem (by simp [hr])) (h.back x hx)
    rcases List.mem_append.1 hx with hx | hx
    · exact hm x hx
    · have : x = (less g v B, c) := by simpa using hx
      subst this
      exact (less_sp g _ B v hm).1 (Sp.mem (by simp))

theorem first_lead (v : Vec n) : ∀ m, (∀ j, j < m → v j = 0) ∨ ∃ c, c < m ∧ IsLead v c := by
  intro m
  induction m with
  | zero => exact .inl (fun j hj => absurd hj (by omega))
  | succ m ih =>
    rcases ih with h | ⟨c, hc, h⟩
    · by_cases e : v m = 0
      · exact .inl (fun j hj => by rcases Nat.lt_succ_iff_lt_or_eq.1 hj with h1 | h1; exact h j h1; rw [h1]; exact e)
      · exact .inr ⟨m, by omega, e, h⟩
    · exact .inr ⟨c, by omega, h⟩

theorem less_far (g : Fin n → Fin n) (cols : Nat) (B : List (Vec n × Nat)) (hB : ∀ x ∈ B, ∀ j, cols ≤ j → x.1 j = 0) (v : Vec n) (hv : ∀ j, cols ≤ j → v j = 0) : ∀ j, cols ≤ j → less g v B j = 0 :=
  fun j hj => less_keep g j B v (fun x hx => hB x hx j hj) (hv j hj)

/-- rows that end ahead of cols have such a base; with a row more it is at most one longer -/
theorem base_exists (g : Fin n → Fin n) (hg : ∀ a : Fin n, a ≠ 0 → a * g a = 1) (cols : Nat) (L : List (Vec n)) (B : List (Vec n × Nat)) (h : BaseOf L B) (hB : ∀ x ∈ B, x.2 < cols ∧ ∀ j, cols ≤ j → x.1 j = 0) (v : Vec n) (hv : ∀ j, cols ≤ j → v j = 0) :
    ∃ B', BaseOf (L ++ [v]) B' ∧ (∀ x ∈ B', x.2 < cols ∧ ∀ j, cols ≤ j → x.1 j = 0) ∧ B'.length ≤ B.length + 1 := by
  have hf := less_far g cols B (fun x hx => (hB x hx).2) v hv
  rcases first_lead (less g v B) cols with h0 | ⟨c, hc, h0⟩
  · refine ⟨B, h.skip g v (fun j => ?_), hB, by omega⟩
    by_cases hj : j < cols
    · exact h0 j hj
    · exact hf j (by omega)
  · refine ⟨_, h.more g hg v c h0, fun x hx => ?_, by simp⟩
    rcases List.mem_append.1 hx with hx | hx
    · exact hB x hx
    · have : x = (less g v B, c) := by simpa using hx
      subst this
      exact ⟨hc, hf⟩

theorem base_all (g : Fin n → Fin n) (hg : ∀ a : Fin n, a ≠ 0 → a * g a = 1) (cols : Nat) : ∀ (M L : List (Vec n)) (B : List (Vec n × Nat)), BaseOf L B → (∀ x ∈ B, x.2 < cols ∧ ∀ j, cols ≤ j → x.1 j = 0) → (∀ v ∈ M, ∀ j, cols ≤ j → v j = 0) →
    ∃ B', BaseOf (L ++ M) B' ∧ (∀ x ∈ B', x.2 < cols ∧ ∀ j, cols ≤ j → x.1 j = 0) := by
  intro M
  induction M with
  | nil => intro L B h hB _; exact ⟨B, by rwa [List.append_nil], hB⟩
  | cons v M ih =>
    intro L B h hB hM
    obtain ⟨B1, h1, hB1, _⟩ := base_exists g hg cols L B h hB v (hM v (by simp))
    obtain ⟨B2, h2, hB2⟩ := ih (L ++ [v]) B1 h1 hB1 (fun w hw => hM w (by simp [hw]))
    exact ⟨B2, by simpa using h2, hB2⟩

theorem rank_snoc (hz : NoZero n) (g : Fin n → Fin n) (hg : ∀ a : Fin n, a ≠ 0 → a * g a = 1) (cols : Nat) (L : List (Vec n)) (hL : ∀ r ∈ L, ∀ j, cols ≤ j → r j = 0) (v : Vec n) (hv : ∀ j, cols ≤ j → v j = 0) :
    rank (L ++ [v]) cols ≤ rank L cols + 1 := by
  obtain ⟨B, h, hB⟩ := base_all g hg cols L [] [] BaseOf.nil (by simp) hL
  rw [List.nil_append] at h
  obtain ⟨B', h', hB', hl⟩ := base_exists g hg cols L B h hB v hv
  rw [h.rank hz cols (fun x hx => (hB x hx).1), h'.rank hz cols (fun x hx => (hB' x hx).1)]
  exact hl

theorem rank_perm {L M : List (Vec n)} (h : ∀ r, r ∈ L ↔ r ∈ M) (cols : Nat) : rank L cols = rank M cols :=
  rank_eq (fun r hr => Sp.mem ((h r).1 hr)) (fun r hr => Sp.mem ((h r).2 hr)) cols

end Go.Proofs.Ytoplnkbhgpamaaa.Lin
