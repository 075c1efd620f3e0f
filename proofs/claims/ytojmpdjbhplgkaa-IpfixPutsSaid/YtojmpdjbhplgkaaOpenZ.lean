/- An argument that reads as data and of which each slice and string is within reach of the memory is opened, kind by kind: what its cells say, and how long its parts can be. Each lemma's condition: the reading of the argument succeeds, and its weights are within reach. -/
import Derived.Test.YtojmpdjbhplgkaaOpen
import Derived.SizedLaws
namespace Go.Proofs.Ytojmpdjbhplgkaa.OpenZ
open Go Go.RowKit Go.Proofs.YtojmpdjbhplgkaaW.PrintWords Go.Proofs.Ytojmpdjbhplgkaa.Open

/-- read as data, within reach -/
def TrodZ {H : Type} (enc : TypeId × Value → H) (P : Program) (W : World) (fuel : Nat) (t : TypeId) (cs : List Value) (x : DataW H × List MemPlace) : Prop :=
  DataW.trod enc P W 0 (fun _ => true) true fuel t cs = some x ∧ ∀ n ∈ x.1.weights P t, n ≤ reachBytes

def Opens {α H : Type} (enc : TypeId × Value → H) (P : Program) (W : World) (t : TypeId) (K : Kd α) (ok : α → Prop) : Prop :=
  ∀ (fuel : Nat) (cs : List Value) (x : DataW H × List MemPlace), TrodZ enc P W fuel t cs x → ∃ y, K.K W y cs ∧ ok y

section
variable {H : Type} {enc : TypeId × Value → H} {P : Program} {W : World} {t : TypeId}

theorem weights_all {e : TypeId} : ∀ {ds : List (DataW H)} {d : DataW H}, d ∈ ds → ∀ n ∈ d.weights P e, n ∈ DataW.weightsAll P e ds := by
  intro ds
  induction ds with
  | nil => intro d h; cases h
  | cons z r ih =>
    intro d h n hn
    rw [DataW.weightsAll, List.mem_append]
    rcases List.mem_cons.1 h with rfl | h
    · exact Or.inl hn
    · exact Or.inr (ih h n hn)

theorem opens_int {k : IntKind} (ht : P.underlying t = some (.int k)) : Opens enc P W t (Kd.int k) (fun n => (Lit.int k n).wf = true) := by
  intro fuel cs x h
  exact Open.opens_int ht fuel cs x h.1

theorem opens_bool (ht : P.underlying t = some .bool) : Opens enc P W t Kd.bool (fun _ => True) := by
  intro fuel cs x h
  exact Open.opens_bool ht fuel cs x h.1

theorem opens_string (ht : P.underlying t = some .string) : Opens enc P W t Kd.string (fun s => s.size ≤ 140737488351232) := by
  intro fuel cs x h
  obtain ⟨s, rfl, rfl, _⟩ := DataW.trod_string ht h.1
  refine ⟨s, rfl, ?_⟩
  have := h.2 s.data.toList.length (by simp [DataW.weights])
  rw [Array.length_toList] at this
  exact this

theorem opens_slice {α : Type} {e : TypeId} {d : Kd α} {ok : α → Prop} (ht : P.underlying t = some (.slice e)) (hsz : P.cellsOf e = d.sz) {B : Nat} (hB : P.bytesOf e = B) (he : Opens enc P W e d ok) :
    Opens enc P W t (Kd.slice e d) (fun l => l.length * B ≤ 140737488351232 ∧ ∀ y ∈ l, ok y) := by
  intro fuel cs x h
  rcases DataW.trod_slice ht h.1 with ⟨rfl, _⟩ | ⟨a, len, cap, elems, rest, n, _, rfl, hx, _, hl, hm, hlen, hel, _, _⟩
  · exact ⟨[], ⟨none, 0, rfl, Nat.le_refl _, rfl, Nat.zero_le _, fun h0 => absurd h0 (Nat.lt_irrefl 0)⟩, by simp, fun y hy => by cases hy⟩
  · have hw := h.2
    rw [hx] at hw
    simp only [DataW.weights, ht] at hw
    obtain ⟨l, hll, hq⟩ := pick_list (α := α) len (fun i y => (∃ c, W.cells? 0 (a.add (i * P.cellsOf e)) (P.cellsOf e) = some c ∧ d.K W y c) ∧ ok y) (fun i hi => by
      have h1 := hel i hi
      rw [List.getElem?_eq_getElem (by omega)] at h1
      obtain ⟨c, hc, hd⟩ := Option.bind_eq_some_iff.1 h1
      obtain ⟨y, hy, ho⟩ := he n c _ ⟨hd, fun m hm => hw m (List.mem_cons_of_mem _ (List.mem_append.2 (Or.inl (weights_all (List.mem_map_of_mem (List.getElem_mem _)) m hm))))⟩
      exact ⟨y, ⟨c, hc, hy⟩, ho⟩)
    have hml : maxLen = 9223372036854775807 := by decide
    have hz := hw ((elems.map (·.1)).length * P.bytesOf e + (rest.map (·.1)).length * P.bytesOf e) (by rw [← Nat.add_mul]; exact List.mem_cons_self)
    refine ⟨l, ⟨some a, cap, by rw [hll], by omega, rfl, by omega, fun _ => ⟨a, rfl, fun j p hj => ?_⟩⟩, ?_, fun y hy => ?_⟩
    · obtain ⟨⟨c, hc, hk⟩, _⟩ := hq j p hj
      obtain ⟨_, hcl, hcell⟩ := World.cells?_some hc
      refine ⟨c, by rw [hcl, hsz], hk, fun i u hu => ?_⟩
      have hi := (List.getElem?_eq_some_iff.1 hu).1
      have h2 := hcell i (by omega)
      rw [hu, hsz] at h2
      have e2 : (a.add (j * d.sz)).add i = a.add (j * d.sz + i) := Addr.add_add _ _ _
      rw [← e2]; exact h2
    · rw [List.length_map, hlen, hB] at hz
      rw [hll]
      exact Nat.le_trans (Nat.le_add_right _ _) hz
    · obtain ⟨i, hi⟩ := List.getElem?_of_mem hy
      exact (hq i y hi).2

theorem opens_iso {α β : Type} {d : Kd β} {ok : β → Prop} (f : α → β) (g : β → α) (hfg : ∀ y, f (g y) = y) (h : Opens enc P W t d ok) : Opens enc P W t (Kd.iso d f) (fun x => ok (f x)) := by
  intro fuel cs x hx
  obtain ⟨y, hy, ho⟩ := h fuel cs x hx
  exact ⟨g y, by show d.K W (f (g y)) cs; rw [hfg]; exact hy, by show ok (f (g y)); rw [hfg]; exact ho⟩

/-- the fields of a struct, one by one -/
theorem fields_of {fs : Array Field} (ht : P.underlying t = some (.struct fs)) {fuel : Nat} {cs : List Value} {x : DataW H × List MemPlace}
    (h : TrodZ enc P W fuel t cs x) :
    cs.length = P.cellsOf t ∧ ∃ n, ∀ (i : Nat) (f : Field), fs[i]? = some f → ∃ z, TrodZ enc P W n f.type ((cs.drop f.offset).take (P.cellsOf f.type)) z := by
  obtain ⟨xs, n, _, hx, hl, hxl, hf⟩ := DataW.trod_struct ht h.1
  refine ⟨hl, n, fun i f hi => ?_⟩
  have h1 := hf i f hi
  have hlt := (Array.getElem?_eq_some_iff.1 hi).1
  rw [List.getElem?_eq_getElem (by omega)] at h1
  refine ⟨_, h1, fun m hm => h.2 m ?_⟩
  rw [hx]
  simp only [DataW.weights, ht]
  refine DataW.weights_mem_each (j := i) (t := f.type) ?_ ?_ m hm
  · rw [List.getElem?_map, Array.getElem?_toList, hi]; rfl
  · rw [List.getElem?_map, List.getElem?_eq_getElem (by omega)]; rfl

/-- one field, at its place -/
theorem field_at {fs : Array Field} {n : Nat} {cs : List Value}
    (hf : ∀ (i : Nat) (f : Field), fs[i]? = some f → ∃ z, TrodZ enc P W n f.type ((cs.drop f.offset).take (P.cellsOf f.type)) z)
    (i : Nat) {f : Field} (hi : fs[i]? = some f) {ty off sz : Nat} (h1 : f.type = ty) (h2 : f.offset = off) (h3 : P.cellsOf ty = sz) :
    ∃ z, TrodZ enc P W n ty ((cs.drop off).take sz) z := by
  subst h1 h2 h3
  exact hf i f hi

/-- a parameter's reading, within reach -/
theorem trodZ_param {ts : List TypeId} {ds : List (DataW H)} {j : Nat} {cs : List Value} {fuel : Nat} {d : DataW H} {p : List MemPlace} (hsz : (DataW.weightsEach P ts ds).all (· ≤ reachBytes) = true) (ht : ts[j]? = some t) (hd : ds[j]? = some d)
    (h : DataW.trod enc P W 0 (fun _ => true) true fuel t cs = some (d, p)) : TrodZ enc P W fuel t cs (d, p) :=
  ⟨h, fun n hn => of_decide_eq_true (List.all_eq_true.1 hsz n (DataW.weights_mem_each ht hd n hn))⟩
end
end Go.Proofs.Ytojmpdjbhplgkaa.OpenZ
