/- Of the bytes of a message without some at the end there is no message: they are too short, or their length is not the one that is told. No condition beyond the kinds of the arguments. -/
import Derived.Test.YtojmpdjbhplgkaaPIpfixCutx10
import Derived.Test.YtojmpdjbhplgkaaBits
import Derived.Test.YtojmpdjbhplgkaaOcts
import Derived.Test.YtojmpdjbhplgkaaEvs
namespace Go.Proofs.Ytojmpdjbhplgkaa.Pure
open Go.RowKit Go.Proofs.Ytojmpdjbhplgkaa.PIpfixCut Go.Proofs.YtojmpdjbhplgkaaW.PrintWords Go.Proofs.YtojmpdjbhplgkaaW.PrintLast Go.Proofs.Ytojmpdjbhplgkaa.Bits Go.Proofs.Ytojmpdjbhplgkaa.Octs Go.Proofs.Ytojmpdjbhplgkaa.Evs
set_option linter.unusedSimpArgs false
set_option linter.unusedVariables false

theorem within_some (n a b : Int) : ∃ t, ipfix_within.f n a b = some t := by
  unfold ipfix_within.f
  by_cases h : n ≥ a
  · exact ⟨_, if_pos h⟩
  · exact ⟨_, if_neg h⟩
theorem wrong_some (a b c : Int) : ∃ t, ipfix_wrong.f a b c = some t := by
  unfold ipfix_wrong.f
  obtain ⟨t1, h1⟩ := within_some a 0 32768
  obtain ⟨t2, h2⟩ := within_some b 0 65536
  obtain ⟨t3, h3⟩ := within_some c 0 4294967296
  rw [h1, h2, h3]
  cases t1 <;> cases t2 <;> exact ⟨_, rfl⟩
theorem field_any (l : List S82) : ∃ t, ipfix_Field_48.any l = some t := by
  induction l with
  | nil => exact ⟨_, rfl⟩
  | cons y l ih =>
    obtain ⟨t, ht⟩ := ih
    obtain ⟨u, hu⟩ := wrong_some y.f0 y.f1 y.f2
    rw [ipfix_Field_48.any, List.foldr_cons, ← ipfix_Field_48.any, ht, ipfix_Field_48.g, hu, Option.bind_some]
    cases u <;> exact ⟨_, rfl⟩
theorem tright_some (id : Int) (l : List S82) (h : l.length ≤ 9223372036854775807) : ∃ t, ipfix_Template_right.f id l = some t := by
  unfold ipfix_Template_right.f
  obtain ⟨t1, h1⟩ := within_some id 256 65536
  obtain ⟨t2, h2⟩ := within_some (l.length : Int) 1 65
  obtain ⟨t3, h3⟩ := field_any l
  rw [h1, h2, ipfix_Field_48.f, if_pos h, h3]
  cases t1 <;> cases t2 <;> exact ⟨_, rfl⟩

def fokB (y : S82) : Bool := decide (0 ≤ y.f0 ∧ y.f0 < 32768) && decide (0 ≤ y.f1 ∧ y.f1 < 65536) && decide (0 ≤ y.f2 ∧ y.f2 < 4294967296)
def trightB (id : Int) (t : List S82) : Bool := decide (256 ≤ id ∧ id < 65536) && decide (1 ≤ t.length ∧ t.length < 65) && t.all fokB
theorem within_spec (n a b : Int) : ipfix_within.f n a b = some (decide (a ≤ n ∧ n < b)) := by
  unfold ipfix_within.f
  by_cases h : n ≥ a
  · rw [if_pos h]; congr 1; exact decide_eq_decide.2 ⟨fun g => ⟨h, g⟩, fun g => g.2⟩
  · rw [if_neg h]; congr 1; exact (decide_eq_false (fun g => h g.1)).symm
theorem wrong_spec (y : S82) : ipfix_wrong.f y.f0 y.f1 y.f2 = some (!fokB y) := by
  unfold ipfix_wrong.f fokB
  rw [within_spec, within_spec, within_spec]
  simp only [Option.bind_some]
  cases decide (0 ≤ y.f0 ∧ y.f0 < 32768) <;> cases decide (0 ≤ y.f1 ∧ y.f1 < 65536) <;> cases decide (0 ≤ y.f2 ∧ y.f2 < 4294967296) <;> rfl
theorem field_any_spec (l : List S82) : ipfix_Field_48.any l = some (!l.all fokB) := by
  induction l with
  | nil => rfl
  | cons y l ih =>
    rw [ipfix_Field_48.any, List.foldr_cons, ← ipfix_Field_48.any, ih, ipfix_Field_48.g, wrong_spec, Option.bind_some, List.all_cons]
    cases fokB y <;> rfl
theorem tright_spec (id : Int) (t : List S82) (h : t.length ≤ 9223372036854775807) : ipfix_Template_right.f id t = some (trightB id t) := by
  unfold ipfix_Template_right.f trightB
  rw [within_spec, within_spec, ipfix_Field_48.f, if_pos h, field_any_spec, show decide ((1 : Int) ≤ (t.length : Int) ∧ (t.length : Int) < 65) = decide (1 ≤ t.length ∧ t.length < 65) from decide_eq_decide.2 (by omega)]
  simp only [Option.bind_some, Bool.not_not]
  cases decide (256 ≤ id ∧ id < 65536) <;> cases decide (1 ≤ t.length ∧ t.length < 65) <;> cases t.all fokB <;> rfl
theorem trightB_fok {id : Int} {t : List S82} (h : trightB id t = true) : (1 ≤ t.length ∧ t.length < 65) ∧ ∀ y ∈ t, fokB y = true := by
  unfold trightB at h
  simp only [Bool.and_eq_true, decide_eq_true_eq, List.all_eq_true] at h
  exact ⟨h.1.2, h.2⟩
theorem fokB_f1 {y : S82} (h : fokB y = true) : 0 ≤ y.f1 ∧ y.f1 < 65536 := by
  unfold fokB at h
  simp only [Bool.and_eq_true, decide_eq_true_eq] at h
  exact h.1.2

def setB (y : S29) : Bool := if y.f0 = 2 then decide (y.f2.size = 0) && (decide (0 < y.f1.length) && y.f1.all fun t => trightB t.f0 t.f1) else decide (256 ≤ y.f0 ∧ y.f0 < 65536) && decide (y.f1.length = 0)
def rightB (a b c : Int) (l : List S29) : Bool := decide (0 ≤ a ∧ a < 4294967296) && (decide (0 ≤ b ∧ b < 4294967296) && (decide (0 ≤ c ∧ c < 4294967296) && l.all setB))
theorem temp_any_spec (l : List S37) (h : ∀ y ∈ l, y.f1.length ≤ 9223372036854775807) : ipfix_Template_55.any l = some (!l.all fun t => trightB t.f0 t.f1) := by
  induction l with
  | nil => rfl
  | cons y l ih =>
    rw [ipfix_Template_55.any, List.foldr_cons, ← ipfix_Template_55.any, ih (fun z hz => h z (List.mem_cons_of_mem _ hz)), ipfix_Template_55.g, tright_spec _ _ (h y List.mem_cons_self), Option.bind_some, Option.bind_some, List.all_cons]
    cases trightB y.f0 y.f1 <;> rfl
theorem set_right_spec (y : S29) (h0 : y.f1.length ≤ 9223372036854775807) (h : ∀ t ∈ y.f1, t.f1.length ≤ 9223372036854775807) : ipfix_Set_right.f y.f0 y.f1 y.f2 = some (setB y) := by
  unfold ipfix_Set_right.f setB
  by_cases c : y.f0 = 2
  · rw [if_pos c, if_pos c]
    by_cases d : y.f2.size = 0
    · rw [if_pos ((toList_nil_iff _).2 d), decide_eq_true d, Bool.true_and]
      by_cases e : 0 < y.f1.length
      · rw [if_pos (by omega), decide_eq_true e, Bool.true_and, ipfix_Template_55.f, if_pos h0, temp_any_spec _ h, Option.bind_some, Bool.not_not]
      · rw [if_neg (by omega), decide_eq_false e, Bool.false_and]
    · rw [if_neg (fun g => d ((toList_nil_iff _).1 g)), decide_eq_false d, Bool.false_and]
  · rw [if_neg c, if_neg c, within_spec, Option.bind_some, show ((y.f1.length : Int) == 0) = decide (y.f1.length = 0) by
      by_cases e : y.f1.length = 0
      · rw [decide_eq_true e, e]; rfl
      · rw [decide_eq_false e]; exact beq_eq_false_iff_ne.2 (by omega)]
    cases decide (256 ≤ y.f0 ∧ y.f0 < 65536) <;> rfl
theorem set_any_spec (l : List S29) (h : ∀ y ∈ l, y.f1.length ≤ 9223372036854775807 ∧ ∀ t ∈ y.f1, t.f1.length ≤ 9223372036854775807) : ipfix_Set_41.any l = some (!l.all setB) := by
  induction l with
  | nil => rfl
  | cons y l ih =>
    have hy := h y List.mem_cons_self
    rw [ipfix_Set_41.any, List.foldr_cons, ← ipfix_Set_41.any, ih (fun z hz => h z (List.mem_cons_of_mem _ hz)), ipfix_Set_41.g, set_right_spec y hy.1 hy.2, Option.bind_some, Option.bind_some, List.all_cons]
    cases setB y <;> rfl
theorem right_spec (a b c : Int) (l : List S29) (hl : l.length ≤ 9223372036854775807) (h : ∀ y ∈ l, y.f1.length ≤ 9223372036854775807 ∧ ∀ t ∈ y.f1, t.f1.length ≤ 9223372036854775807) : ipfix_Right.f a b c l = some (rightB a b c l) := by
  unfold ipfix_Right.f rightB
  rw [within_spec, within_spec, within_spec, ipfix_Set_41.f, if_pos hl, set_any_spec l h]
  simp only [Option.bind_some, Bool.not_not]
  cases decide (0 ≤ a ∧ a < 4294967296) <;> cases decide (0 ≤ b ∧ b < 4294967296) <;> cases decide (0 ≤ c ∧ c < 4294967296) <;> rfl

theorem awake22 : rillmeterlaw22_awake.f 40 = some true := by decide +kernel
theorem awake_spec : ∃ m, ∀ k, m ≤ k → rillmeterlaw22_awake.f k = some true := by
  refine ⟨40, fun k hk => ?_⟩
  induction hk with
  | refl => exact awake22
  | step _ ih => exact rillmeterlaw22_awake.mono _ _ ih

/-- fields as the document's -/
def cvF (y : S82) : S88 := ⟨y.f0, y.f1, y.f2⟩
theorem tref_l0 (id : Int) (t : List S82) (ht : t.length ≤ 5864062014700) : ∀ (d i : Nat), i + d = t.length → Evt (fun k => rillmeterlaw22_tref.l0 k t (t.length : Int) (i : Int) id ((t.take i).map cvF)) (id, t.map cvF) := by
  intro d
  induction d with
  | zero =>
    intro i h
    refine Evt.step (Evt.now (f := fun _ => some (id, t.map cvF)) (fun _ => rfl)) (fun k => ?_)
    simp only [rillmeterlaw22_tref.l0]
    rw [if_neg (by omega), List.take_of_length_le (by omega)]
  | succ d ih =>
    intro i h
    refine Evt.step (ih (i + 1) (by omega)) (fun k => ?_)
    simp only [rillmeterlaw22_tref.l0]
    have e : t.take (i + 1) = t.take i ++ [rd_T82 t (i : Int)] := by
      rw [List.take_add_one, List.getElem?_eq_getElem (by omega)]
      simp [rd_T82, List.getD_eq_getElem?_getD, show i < t.length by omega]
    rw [if_pos (by omega), if_pos (by omega), if_pos (by omega), if_pos (by rw [List.length_map, List.length_take]; omega), i64_in ((i : Int) + 1) (by omega) (by omega), show (i : Int) + 1 = ((i + 1 : Nat) : Int) by omega, e, List.map_append]
    rfl
theorem tref_spec (id : Int) (t : List S82) (ht : t.length ≤ 5864062014700) : Evt (fun k => rillmeterlaw22_tref.f k id t) (id, t.map cvF) :=
  (tref_l0 id t ht t.length 0 (by omega)).eq (fun k => rfl)

/-- bounds of what a message leads to; wide ones, of a message that came in -/
def bndW (l : List S29) : Prop := ∀ y ∈ l, y.f1.length ≤ 4398046510976 ∧ ∀ t ∈ y.f1, t.f1.length ≤ 5864062014634
def bndS (l : List S29) : Prop := ∀ y ∈ l, y.f1.length ≤ 1000000 ∧ ∀ t ∈ y.f1, t.f1.length ≤ 65535
def cvT (t : S37) : S46 := ⟨t.f0, t.f1.map cvF⟩
/-- a set as the document's -/
def cvS (y : S29) : S93 := ⟨y.f0, y.f1.map cvT, y.f2⟩
theorem lref_l1 (l : List S29) (n : Nat) (hn : n ≤ 2932031007317) (a b c : Int) (acc : List S93) (hacc : acc.length ≤ 2932031007317) (id : Int) (data : ByteArray) (ts : List S37) (hts : ts.length ≤ 4398046510976) (hb : ∀ t ∈ ts, t.f1.length ≤ 5864062014634) {R : Int × Int × Int × List S93}
    (h : Evt (fun k => rillmeterlaw22_ref.l0 k l (l.length : Int) ((n + 1 : Nat) : Int) a b c (acc ++ [⟨id, ts.map cvT, data⟩])) R) :
    ∀ (d i : Nat), i + d = ts.length → Evt (fun k => rillmeterlaw22_ref.l1 k l (l.length : Int) (n : Int) ts (ts.length : Int) (i : Int) a b c acc id ((ts.take i).map cvT) data) R := by
  intro d
  induction d with
  | zero =>
    intro i hi
    refine Evt.step h (fun k => ?_)
    simp only [rillmeterlaw22_ref.l1]
    rw [if_neg (by omega), if_pos (by omega), i64_in ((n : Int) + 1) (by omega) (by omega), List.take_of_length_le (by omega)]
    rfl
  | succ d ih =>
    intro i hi
    have hm : rd_T37 ts (i : Int) ∈ ts := by
      unfold rd_T37
      rw [Int.toNat_natCast, List.getD_eq_getElem?_getD, List.getElem?_eq_getElem (by omega)]
      exact List.getElem_mem _
    have e : ts.take (i + 1) = ts.take i ++ [rd_T37 ts (i : Int)] := by
      rw [List.take_add_one, List.getElem?_eq_getElem (by omega)]
      simp [rd_T37, List.getD_eq_getElem?_getD, show i < ts.length by omega]
    obtain ⟨m1, e1⟩ := tref_spec (rd_T37 ts (i : Int)).f0 (rd_T37 ts (i : Int)).f1 (by have := hb _ hm; omega)
    obtain ⟨m2, e2⟩ := ih (i + 1) (by omega)
    refine ⟨m1 + m2 + 1, fun k hk => ?_⟩
    obtain ⟨k, rfl⟩ : ∃ z, k = z + 1 := ⟨k - 1, by omega⟩
    have e1 := e1 k (by omega)
    have e2 := e2 k (by omega)
    simp only at e1 e2
    rw [e, List.map_append] at e2
    simp only [rillmeterlaw22_ref.l1]
    rw [if_pos (by omega), if_pos (by omega), if_pos (by omega), e1, Option.bind_some, if_pos (by rw [List.length_map, List.length_take]; omega), i64_in ((i : Int) + 1) (by omega) (by omega), show (i : Int) + 1 = ((i + 1 : Nat) : Int) by omega]
    exact e2
theorem lref_l0 (l : List S29) (hl : l.length ≤ 2932031007317) (hb : bndW l) (a b c : Int) : ∀ (d i : Nat), i + d = l.length → Evt (fun k => rillmeterlaw22_ref.l0 k l (l.length : Int) (i : Int) a b c ((l.take i).map cvS)) (a, b, c, l.map cvS) := by
  intro d
  induction d with
  | zero =>
    intro i hi
    refine Evt.step (Evt.now (f := fun _ => some _) (fun _ => rfl)) (fun k => ?_)
    simp only [rillmeterlaw22_ref.l0]
    rw [if_neg (by omega), List.take_of_length_le (by omega)]
  | succ d ih =>
    intro i hi
    have hm : rd_T29 l (i : Int) ∈ l := by
      unfold rd_T29
      rw [Int.toNat_natCast, List.getD_eq_getElem?_getD, List.getElem?_eq_getElem (by omega)]
      exact List.getElem_mem _
    have e : l.take (i + 1) = l.take i ++ [rd_T29 l (i : Int)] := by
      rw [List.take_add_one, List.getElem?_eq_getElem (by omega)]
      simp [rd_T29, List.getD_eq_getElem?_getD, show i < l.length by omega]
    have hI := ih (i + 1) (by omega)
    rw [e, List.map_append] at hI
    have hy := hb _ hm
    refine Evt.step (lref_l1 l i (by omega) a b c ((l.take i).map cvS) (by rw [List.length_map, List.length_take]; omega) (rd_T29 l (i : Int)).f0 (rd_T29 l (i : Int)).f2 (rd_T29 l (i : Int)).f1 hy.1 hy.2 hI (rd_T29 l (i : Int)).f1.length 0 (by omega)) (fun k => ?_)
    simp only [rillmeterlaw22_ref.l0]
    rw [if_pos (by omega), if_pos (by omega), if_pos (by omega)]
    rfl
theorem lref_wide (l : List S29) (hl : l.length ≤ 2932031007317) (hb : bndW l) (a b c : Int) : Evt (fun k => rillmeterlaw22_ref.f k a b c l) (a, b, c, l.map cvS) :=
  (lref_l0 l hl hb a b c l.length 0 (by omega)).eq (fun k => rfl)
theorem lref_spec (l : List S29) (hl : l.length ≤ 1000000) (hb : bndS l) (a b c : Int) : Evt (fun k => rillmeterlaw22_ref.f k a b c l) (a, b, c, l.map cvS) :=
  lref_wide l (by omega) (fun y hy => ⟨by have := (hb y hy).1; omega, fun t ht => by have := (hb y hy).2 t ht; omega⟩) a b c

/-- so many bytes, the rest, and how it went -/
def cutP (s : ByteArray) (n : Int) : ByteArray × ByteArray × Int :=
  if n < 0 then (⟨#[]⟩, ⟨#[]⟩, 1) else if (s.size : Int) < n then (⟨#[]⟩, ⟨#[]⟩, 2) else (s.extract 0 n.toNat, s.extract n.toNat s.size, 0)
theorem cut_spec (s : ByteArray) (n : Int) : octet_Cut.f s n = some (cutP s n) := by
  unfold octet_Cut.f cutP
  by_cases h : n < 0
  · rw [if_pos h, if_pos h]
  · rw [if_neg h, if_neg h]
    by_cases g : (s.size : Int) < n
    · rw [if_pos g, if_pos g]
    · rw [if_neg g, if_neg g, if_pos (by omega), if_pos (by omega)]
theorem cutP_ok {s : ByteArray} {n : Int} (h : (cutP s n).2.2 = 0) : 0 ≤ n ∧ n ≤ s.size ∧ cutP s n = (s.extract 0 n.toNat, s.extract n.toNat s.size, 0) := by
  unfold cutP at h ⊢
  by_cases c : n < 0
  · rw [if_pos c] at h; exact absurd h (by decide)
  · rw [if_neg c] at h ⊢
    by_cases g : (s.size : Int) < n
    · rw [if_pos g] at h; exact absurd h (by decide)
    · rw [if_neg g]; exact ⟨by omega, by omega, rfl⟩
theorem cutP_more {s : ByteArray} {n : Int} (b : ByteArray) (h : (cutP s n).2.2 = 0) : cutP (s ++ b) n = ((cutP s n).1, (cutP s n).2.1 ++ b, 0) := by
  obtain ⟨h0, h1, e⟩ := cutP_ok h
  rw [e]
  unfold cutP
  rw [if_neg (by omega), if_neg (by rw [ByteArray.size_append]; omega)]
  refine Prod.ext ?_ (Prod.ext ?_ rfl)
  · show (s ++ b).extract 0 n.toNat = s.extract 0 n.toNat
    rw [ByteArray.extract_append, show n.toNat - s.size = 0 by omega, show 0 - s.size = 0 by omega]
    apply ByteArray.ext
    simp
  · show (s ++ b).extract n.toNat (s ++ b).size = s.extract n.toNat s.size ++ b
    rw [ByteArray.extract_append, ByteArray.size_append, show n.toNat - s.size = 0 by omega, show s.size + b.size - s.size = b.size by omega]
    congr 1
    · apply ByteArray.ext
      rw [ByteArray.data_extract, ByteArray.data_extract]
      apply Array.ext_getElem?
      intro i
      simp only [Array.getElem?_extract, ByteArray.size_data]
      by_cases c : i < s.size - n.toNat
      · rw [if_pos (by omega), if_pos (by omega)]
      · rw [if_neg (by omega), if_neg (by omega)]
    · apply ByteArray.ext
      simp
theorem cutP_le (s : ByteArray) (n : Int) : (cutP s n).2.1.size ≤ s.size := by
  unfold cutP
  by_cases c : n < 0
  · rw [if_pos c]; exact Nat.zero_le _
  · rw [if_neg c]
    by_cases g : (s.size : Int) < n
    · rw [if_pos g]; exact Nat.zero_le _
    · rw [if_neg g]
      show (s.extract n.toNat s.size).size ≤ s.size
      rw [ByteArray.size_extract]; omega

theorem cutP_eq (s : ByteArray) (n : Int) : cutP s n = if 0 ≤ n ∧ n ≤ s.size then (s.extract 0 n.toNat, s.extract n.toNat s.size, 0) else (⟨#[]⟩, ⟨#[]⟩, if n < 0 then 1 else 2) := by
  unfold cutP
  by_cases c : n < 0
  · rw [if_pos c, if_neg (by omega), if_pos c]
  · rw [if_neg c]
    by_cases g : (s.size : Int) < n
    · rw [if_pos g, if_neg (by omega), if_neg c]
    · rw [if_neg g, if_pos (by omega)]

/-- the number that bytes are, from a place on -/
def numA (x : ByteArray) : Nat → Int → Nat → Int
  | 0, acc, _ => acc
  | d + 1, acc, i => numA x d (Go.bits .or .i64 (wrap64 (acc * 256)) (wrap64 (bt x (i : Int)))) (i + 1)
/-- the number at the beginning, the rest, and how it went -/
def takeP (s : ByteArray) (n : Nat) : Int × ByteArray × Int :=
  if (cutP s n).2.2 = 0 then (numA (cutP s n).1 (cutP s n).1.size 0 0, (cutP s n).2.1, 0) else (0, ⟨#[]⟩, (cutP s n).2.2)
theorem take_l0 (x y : ByteArray) (hx : x.size ≤ 1000000) : ∀ (d i : Nat) (acc : Int), i + d = x.size → Evt (fun k => octet_Take.l0 k x y acc (x.size : Int) (i : Int)) (numA x d acc i, y, 0) := by
  intro d
  induction d with
  | zero =>
    intro i acc h
    refine Evt.step (Evt.now (f := fun _ => some (acc, y, (0 : Int))) (fun _ => rfl)) (fun k => ?_)
    simp only [octet_Take.l0]
    rw [if_neg (by omega)]
  | succ d ih =>
    intro i acc h
    refine Evt.step (ih (i + 1) _ (by omega)) (fun k => ?_)
    simp only [octet_Take.l0]
    rw [if_pos (by omega), if_pos (by omega), if_pos (by omega), i64_in ((i : Int) + 1) (by omega) (by omega), show (i : Int) + 1 = ((i + 1 : Nat) : Int) by omega]
theorem take_spec (s : ByteArray) (n : Nat) (h1 : 1 ≤ n) (h7 : n ≤ 7) : Evt (fun k => octet_Take.f k s (n : Int)) (takeP s n) := by
  have hj : Evt (fun k => octet_Take.j0 k s (n : Int) false) (takeP s n) := by
    unfold takeP
    by_cases h : (cutP s n).2.2 = 0
    · rw [if_pos h]
      have hz : (cutP s n).1.size ≤ 1000000 := by
        obtain ⟨a, b, e⟩ := cutP_ok h
        rw [e]
        show (s.extract 0 _).size ≤ _
        rw [ByteArray.size_extract]; omega
      refine Evt.step (take_l0 (cutP s n).1 (cutP s n).2.1 hz _ 0 0 (by omega)) (fun k => ?_)
      simp only [octet_Take.j0]
      rw [if_neg (by decide), cut_spec, Option.bind_some, if_pos h]
      rfl
    · rw [if_neg h]
      refine Evt.step (Evt.now (f := fun _ => some ((0 : Int), (⟨#[]⟩ : ByteArray), (cutP s n).2.2)) (fun _ => rfl)) (fun k => ?_)
      simp only [octet_Take.j0]
      rw [if_neg (by decide), cut_spec, Option.bind_some, if_neg h]
  refine hj.eq (fun k => ?_)
  unfold octet_Take.f
  rw [if_neg (by omega), decide_eq_false (by omega)]
theorem takeP_more {s : ByteArray} {n : Nat} (b : ByteArray) (h : (takeP s n).2.2 = 0) : takeP (s ++ b) n = ((takeP s n).1, (takeP s n).2.1 ++ b, 0) := by
  unfold takeP at h ⊢
  by_cases c : (cutP s n).2.2 = 0
  · rw [if_pos c, cutP_more b c, if_pos rfl]
  · rw [if_neg c] at h; exact absurd h c
theorem takeP_le (s : ByteArray) (n : Nat) : (takeP s n).2.1.size ≤ s.size := by
  unfold takeP
  by_cases c : (cutP s n).2.2 = 0
  · rw [if_pos c]; exact cutP_le s n
  · rw [if_neg c]; exact Nat.zero_le _

theorem numA_pre (x : ByteArray) : ∀ (d i : Nat), i + d ≤ 7 → numA x d (pre x i) i = pre x (i + d) := by
  intro d
  induction d with
  | zero => intro i _; rfl
  | succ d ih =>
    intro i h
    have hb := bt_range x (i : Int)
    have hp := pre_range x i
    have h2 : (2 : Int) ^ (8 * i) ≤ 2 ^ 48 := by
      have := Nat.pow_le_pow_right (show 0 < 2 by decide) (show 8 * i ≤ 48 by omega)
      exact_mod_cast this
    have h3 : (2 : Int) ^ 48 = 281474976710656 := by decide
    have e : Go.bits .or .i64 (wrap64 (pre x i * 256)) (wrap64 (bt x (i : Int))) = pre x (i + 1) := by
      rw [i64_in (pre x i * 256) (by omega) (by omega), i64_in (bt x (i : Int)) (by omega) (by omega), pre]
      rw [bits_join .i64 63 (by decide) (fun n h0 h1 => by rw [i64_w, i64_in n (by omega) (by omega)]) 8 (pre x i * 256) (bt x (i : Int)) (by omega) (by omega) (by omega) (by omega) (by omega) (by omega)]
      omega
    rw [numA, e, ih (i + 1) (by omega)]
    congr 1; omega
theorem takeP_eq (s : ByteArray) (n : Nat) (h7 : n ≤ 7) : takeP s n = if n ≤ s.size then (pre s n, s.extract n s.size, 0) else (0, ⟨#[]⟩, 2) := by
  unfold takeP
  by_cases c : n ≤ s.size
  · have e : cutP s (n : Int) = (s.extract 0 n, s.extract n s.size, 0) := by rw [cutP_eq, if_pos (by omega), Int.toNat_natCast]
    rw [e, if_pos c, if_pos rfl]
    refine Prod.ext ?_ rfl
    have hz : (s.extract 0 n).size = n := by rw [ByteArray.size_extract]; omega
    show numA (s.extract 0 n) (s.extract 0 n).size 0 0 = pre s n
    rw [hz, show (0 : Int) = pre (s.extract 0 n) 0 from rfl, numA_pre _ _ _ (by omega), Nat.zero_add]
    exact pre_congr _ _ _ (fun j hj => by rw [bt_extract _ _ _ _ (by omega) c, Nat.zero_add])
  · have e : cutP s (n : Int) = (⟨#[]⟩, ⟨#[]⟩, 2) := by rw [cutP_eq, if_neg (by omega), if_neg (by omega)]
    rw [e, if_neg c, if_neg (by decide)]

/-- a number taken off -/
def rnumP (s : ByteArray) (bad : Bool) (n : Nat) : Int × ByteArray × Bool := if (takeP s n).2.2 = 0 then ((takeP s n).1, (takeP s n).2.1, bad) else (0, ⟨#[]⟩, true)
theorem rnum_spec (s : ByteArray) (bad : Bool) (n : Nat) (h1 : 1 ≤ n) (h7 : n ≤ 7) : ∃ m, ∀ k, m ≤ k → ipfix_reader_num.f k s bad (n : Int) = some (rnumP s bad n) := by
  obtain ⟨m, h⟩ := take_spec s n h1 h7
  refine ⟨m, fun k hk => ?_⟩
  have h2 := h k hk
  simp only at h2
  unfold ipfix_reader_num.f rnumP
  rw [h2, Option.bind_some]
  by_cases c : (takeP s n).2.2 = 0
  · rw [if_pos c, if_pos c]
  · rw [if_neg c, if_neg c]
theorem rnumP_bad (s : ByteArray) (n : Nat) : (rnumP s true n).2.2 = true := by
  unfold rnumP
  split <;> rfl
theorem rnumP_le (s : ByteArray) (bad : Bool) (n : Nat) : (rnumP s bad n).2.1.size ≤ s.size := by
  unfold rnumP
  split
  · exact takeP_le s n
  · exact Nat.zero_le _
theorem rnumP_more {s : ByteArray} {n : Nat} (b : ByteArray) (h : (rnumP s false n).2.2 = false) : rnumP (s ++ b) false n = ((rnumP s false n).1, (rnumP s false n).2.1 ++ b, false) := by
  unfold rnumP at h ⊢
  by_cases c : (takeP s n).2.2 = 0
  · rw [if_pos c, takeP_more b c, if_pos rfl]
  · rw [if_neg c] at h; cases h

theorem rnumP_eq (s : ByteArray) (bad : Bool) (n : Nat) (h7 : n ≤ 7) : rnumP s bad n = if n ≤ s.size then (pre s n, s.extract n s.size, bad) else (0, ⟨#[]⟩, true) := by
  unfold rnumP
  rw [takeP_eq s n h7]
  by_cases c : n ≤ s.size
  · rw [if_pos c, if_pos rfl, if_pos c]
  · rw [if_neg c, if_neg (by decide), if_neg c]
theorem rnumP_app (v : Int) (n : Nat) (y : ByteArray) (bad : Bool) (h7 : n ≤ 7) (h0 : 0 ≤ v) (h1 : v < 2 ^ (8 * n)) : rnumP (beS v n ++ y) bad n = (v, y, bad) := by
  rw [rnumP_eq _ _ _ h7, if_pos (by rw [ByteArray.size_append, beS_size]; omega), pre_app v n y h0 h1, ex_app_right' _ _ _ (beS_size v n)]
theorem rnumP_suf (x : ByteArray) (a : Nat) (bad : Bool) (n : Nat) (h7 : n ≤ 7) (h : a + n ≤ x.size) : rnumP (suf x a) bad n = (pre (suf x a) n, suf x (a + n), bad) := by
  rw [rnumP_eq _ _ _ h7, if_pos (by rw [suf_size]; omega), suf_suf x a n h]
theorem rnumP_suf' (x : ByteArray) (a : Nat) (bad : Bool) (n : Nat) (h7 : n ≤ 7) (h0 : 1 ≤ n) (h : ¬ a + n ≤ x.size) : rnumP (suf x a) bad n = (0, ⟨#[]⟩, true) := by
  rw [rnumP_eq _ _ _ h7, if_neg (by rw [suf_size]; omega)]

/-- a text taken off -/
def rtextP (s : ByteArray) (bad : Bool) (n : Int) : ByteArray × ByteArray × Bool := if (cutP s n).2.2 = 0 then ((cutP s n).1, (cutP s n).2.1, bad) else (⟨#[]⟩, ⟨#[]⟩, true)
theorem rtext_spec (s : ByteArray) (bad : Bool) (n : Int) : ipfix_reader_text.f s bad n = some (rtextP s bad n) := by
  unfold ipfix_reader_text.f rtextP
  rw [cut_spec, Option.bind_some]
  by_cases c : (cutP s n).2.2 = 0
  · rw [if_pos c, if_pos c]
  · rw [if_neg c, if_neg c]
theorem rtextP_bad (s : ByteArray) (n : Int) : (rtextP s true n).2.2 = true := by
  unfold rtextP
  split <;> rfl
theorem rtextP_le (s : ByteArray) (bad : Bool) (n : Int) : (rtextP s bad n).2.1.size ≤ s.size := by
  unfold rtextP
  split
  · exact cutP_le s n
  · exact Nat.zero_le _
theorem rtextP_more {s : ByteArray} {n : Int} (b : ByteArray) (h : (rtextP s false n).2.2 = false) : rtextP (s ++ b) false n = ((rtextP s false n).1, (rtextP s false n).2.1 ++ b, false) := by
  unfold rtextP at h ⊢
  by_cases c : (cutP s n).2.2 = 0
  · rw [if_pos c, cutP_more b c, if_pos rfl]
  · rw [if_neg c] at h; cases h

theorem rtextP_eq (s : ByteArray) (bad : Bool) (n : Int) : rtextP s bad n = if 0 ≤ n ∧ n ≤ s.size then (s.extract 0 n.toNat, s.extract n.toNat s.size, bad) else (⟨#[]⟩, ⟨#[]⟩, true) := by
  unfold rtextP
  rw [cutP_eq]
  by_cases c : 0 ≤ n ∧ n ≤ s.size
  · rw [if_pos c, if_pos c]; rfl
  · rw [if_neg c, if_neg c]
    refine if_neg ?_
    show ¬ ((if n < 0 then (1 : Int) else 2) = 0)
    split <;> decide
theorem rtextP_app (v y : ByteArray) (bad : Bool) (n : Int) (h : n = v.size) : rtextP (v ++ y) bad n = (v, y, bad) := by
  subst h
  rw [rtextP_eq, if_pos (by rw [ByteArray.size_append]; omega), Int.toNat_natCast, ex_app_left, ex_app_right]
theorem rtextP_suf (x : ByteArray) (a : Nat) (bad : Bool) (n : Int) (h0 : 0 ≤ n) (h : a + n ≤ x.size) : rtextP (suf x a) bad n = (x.extract a (a + n.toNat), suf x (a + n.toNat), bad) := by
  rw [rtextP_eq, if_pos (by rw [suf_size]; omega), suf_ex x a 0 n.toNat (by omega) (by omega), suf_suf x a n.toNat (by omega)]; rfl
theorem rtextP_suf' (x : ByteArray) (a : Nat) (bad : Bool) (n : Int) (ha : a ≤ x.size) (h : ¬ (0 ≤ n ∧ a + n ≤ x.size)) : rtextP (suf x a) bad n = (⟨#[]⟩, ⟨#[]⟩, true) := by
  rw [rtextP_eq, if_neg (by rw [suf_size]; omega)]

/-- so many fields from a place on, and the place behind; none: they are not there, or have an enterprise 0 -/
def fieldsAt (x : ByteArray) : Nat → Nat → List S82 → Option (List S82 × Nat)
  | 0, a, acc => some (acc, a)
  | n + 1, a, acc =>
    if a + 4 ≤ x.size then
      (if 32768 ≤ pre (suf x a) 2 then
        (if a + 8 ≤ x.size then (if pre (suf x (a + 4)) 4 = 0 then none else fieldsAt x n (a + 8) (acc ++ [⟨pre (suf x a) 2 - 32768, pre (suf x (a + 2)) 2, pre (suf x (a + 4)) 4⟩])) else none)
       else fieldsAt x n (a + 4) (acc ++ [⟨pre (suf x a) 2, pre (suf x (a + 2)) 2, 0⟩]))
    else none
/-- templates up to the end; none: there are none -/
def tempsAt (x : ByteArray) : Nat → Nat → List S37 → Option (List S37)
  | 0, _, _ => none
  | m + 1, a, acc =>
    if a < x.size then
      (if a + 4 ≤ x.size then
        (match fieldsAt x (pre (suf x (a + 2)) 2).toNat (a + 4) [] with
         | some (fs, b) => tempsAt x m b (acc ++ [⟨pre (suf x a) 2, fs⟩])
         | none => none)
       else none)
    else some acc
theorem fieldsAt_le (x : ByteArray) : ∀ (n a : Nat) (acc : List S82) (fs : List S82) (b : Nat), a ≤ x.size → fieldsAt x n a acc = some (fs, b) → a ≤ b ∧ b ≤ x.size ∧ fs.length = acc.length + n ∧ 4 * n ≤ b - a := by
  intro n
  induction n with
  | zero => intro a acc fs b ha h; simp only [fieldsAt, Option.some.injEq, Prod.mk.injEq] at h; obtain ⟨rfl, rfl⟩ := h; exact ⟨Nat.le_refl _, ha, rfl, by omega⟩
  | succ n ih =>
    intro a acc fs b ha h
    rw [fieldsAt] at h
    by_cases c : a + 4 ≤ x.size
    · rw [if_pos c] at h
      by_cases d : 32768 ≤ pre (suf x a) 2
      · rw [if_pos d] at h
        by_cases e : a + 8 ≤ x.size
        · rw [if_pos e] at h
          by_cases z : pre (suf x (a + 4)) 4 = 0
          · rw [if_pos z] at h; cases h
          · rw [if_neg z] at h
            have := ih (a + 8) _ fs b e h
            rw [List.length_append, List.length_singleton] at this
            omega
        · rw [if_neg e] at h; cases h
      · rw [if_neg d] at h
        have := ih (a + 4) _ fs b c h
        rw [List.length_append, List.length_singleton] at this
        omega
    · rw [if_neg c] at h; cases h

/-- a reader of templates that is bad ends so -/
theorem set_bad (r : ByteArray) (rb : Bool) (id : Int) (ts : List S37) (hts : ts.length < 4398046511104) (data s : ByteArray) (n i tid : Int) (tf : List S82) :
    ∃ q, Evt (fun k => ipfix_reader_set.l1 k n i r rb id ts data s true tid tf) q ∧ q.2.2.2.1 = r ∧ q.2.2.2.2 = true := by
  have h1 : Evt (fun k => ipfix_reader_set.j1 k false r rb id (ts ++ [⟨tid, tf⟩]) data s true) (id, ts ++ [⟨tid, tf⟩], data, r, true) := by
    refine Evt.step (Evt.now (f := fun _ => some _) (fun _ => rfl)) (fun k => ?_)
    simp only [ipfix_reader_set.j1]
    rw [if_neg (by decide)]
    cases rb <;> rfl
  have h0 : Evt (fun k => ipfix_reader_set.l0 k r rb id (ts ++ [⟨tid, tf⟩]) data s true) (id, ts ++ [⟨tid, tf⟩], data, r, true) := by
    refine Evt.step h1 (fun k => ?_)
    simp only [ipfix_reader_set.l0, Bool.not_true]
    split <;> rfl
  refine ⟨_, Evt.step h0 (fun k => ?_), rfl, rfl⟩
  simp only [ipfix_reader_set.l1]
  by_cases c : i < n
  · rw [if_pos c, if_pos trivial, if_pos hts]
  · rw [if_neg c, if_pos hts]
/-- one field, where its numbers are there -/
theorem set_field (k : Nat) (r : ByteArray) (rb : Bool) (id : Int) (ts : List S37) (data s : ByteArray) (n i tid : Int) (tf : List S82) (h : i < n) (ht : tf.length < 5864062014805) (x y z : Int × ByteArray × Bool)
    (h1 : ipfix_reader_num.f k s false 2 = some x) (h2 : ipfix_reader_num.f k x.2.1 x.2.2 2 = some y) (h3 : ipfix_reader_num.f k y.2.1 y.2.2 4 = some z) :
    ipfix_reader_set.l1 (k + 1) n i r rb id ts data s false tid tf = (if x.1 ≥ 32768 then (if z.2.2 = true then ipfix_reader_set.l1 k n (wrap64 (i + 1)) r rb id ts data z.2.1 true tid (tf ++ [⟨wrap64 (x.1 - 32768), y.1, z.1⟩]) else ipfix_reader_set.l1 k n (wrap64 (i + 1)) r rb id ts data z.2.1 (z.1 == 0) tid (tf ++ [⟨wrap64 (x.1 - 32768), y.1, z.1⟩]))
      else ipfix_reader_set.l1 k n (wrap64 (i + 1)) r rb id ts data y.2.1 y.2.2 tid (tf ++ [⟨x.1, y.1, 0⟩])) := by
  simp only [ipfix_reader_set.l1]
  rw [if_pos h, if_neg (by decide), h1, Option.bind_some, h2, Option.bind_some]
  by_cases c : x.1 ≥ 32768
  · rw [if_pos c, if_pos c, h3, Option.bind_some, if_pos ht, if_pos ht]
  · rw [if_neg c, if_neg c, if_pos ht]
theorem rnum3 (s : ByteArray) : ∃ m, ∀ k, m ≤ k → ipfix_reader_num.f k s false 2 = some (rnumP s false 2) ∧ ipfix_reader_num.f k (rnumP s false 2).2.1 (rnumP s false 2).2.2 2 = some (rnumP (rnumP s false 2).2.1 (rnumP s false 2).2.2 2) ∧
    ipfix_reader_num.f k (rnumP (rnumP s false 2).2.1 (rnumP s false 2).2.2 2).2.1 (rnumP (rnumP s false 2).2.1 (rnumP s false 2).2.2 2).2.2 4 = some (rnumP (rnumP (rnumP s false 2).2.1 (rnumP s false 2).2.2 2).2.1 (rnumP (rnumP s false 2).2.1 (rnumP s false 2).2.2 2).2.2 4) := by
  obtain ⟨m1, e1⟩ := rnum_spec s false 2 (by decide) (by decide)
  obtain ⟨m2, e2⟩ := rnum_spec (rnumP s false 2).2.1 (rnumP s false 2).2.2 2 (by decide) (by decide)
  obtain ⟨m3, e3⟩ := rnum_spec (rnumP (rnumP s false 2).2.1 (rnumP s false 2).2.2 2).2.1 (rnumP (rnumP s false 2).2.1 (rnumP s false 2).2.2 2).2.2 4 (by decide) (by decide)
  exact ⟨m1 + m2 + m3, fun k hk => ⟨e1 k (by omega), e2 k (by omega), e3 k (by omega)⟩⟩
/-- two numbers of two bytes, one behind the other -/
theorem rnum22_ok (x : ByteArray) (a : Nat) (h : a + 4 ≤ x.size) : rnumP (suf x a) false 2 = (pre (suf x a) 2, suf x (a + 2), false) ∧ rnumP (suf x (a + 2)) false 2 = (pre (suf x (a + 2)) 2, suf x (a + 4), false) :=
  ⟨rnumP_suf x a false 2 (by decide) (by omega), rnumP_suf x (a + 2) false 2 (by decide) (by omega)⟩
theorem rnum22_bad (x : ByteArray) (a : Nat) (h : ¬ a + 4 ≤ x.size) : (rnumP (rnumP (suf x a) false 2).2.1 (rnumP (suf x a) false 2).2.2 2).2.2 = true := by
  by_cases c : a + 2 ≤ x.size
  · rw [rnumP_suf x a false 2 (by decide) c]
    simp only
    rw [rnumP_suf' x (a + 2) false 2 (by decide) (by decide) (by omega)]
  · rw [rnumP_suf' x a false 2 (by decide) (by decide) c]
    exact rnumP_bad _ _

theorem set_fields_none (x : ByteArray) (r : ByteArray) (rb : Bool) (id : Int) (ts : List S37) (hts : ts.length < 4398046511104) (data : ByteArray) (n : Nat) (hn : n ≤ 65535) (tid : Int) :
    ∀ (d i a : Nat) (tf : List S82), i + d = n → tf.length ≤ i → fieldsAt x d a tf = none →
      ∃ q, Evt (fun k => ipfix_reader_set.l1 k (n : Int) (i : Int) r rb id ts data (suf x a) false tid tf) q ∧ q.2.2.2.1 = r ∧ q.2.2.2.2 = true := by
  intro d
  induction d with
  | zero => intro i a tf _ _ h; cases h
  | succ d ih =>
    intro i a tf hi htf h
    rw [fieldsAt] at h
    obtain ⟨m, e⟩ := rnum3 (suf x a)
    have ei : ∀ _ : Unit, wrap64 ((i : Int) + 1) = ((i + 1 : Nat) : Int) := by intro _; rw [i64_in ((i : Int) + 1) (by omega) (by omega)]; omega
    have hlt : (i : Int) < (n : Int) := by omega
    have hlen : tf.length < 5864062014805 := by omega
    have step : ∀ (g : Nat → Option (Int × (List (S37)) × ByteArray × ByteArray × Bool)), (∀ k, m ≤ k → ipfix_reader_set.l1 (k + 1) (n : Int) (i : Int) r rb id ts data (suf x a) false tid tf = g k) →
        (∃ q, Evt g q ∧ q.2.2.2.1 = r ∧ q.2.2.2.2 = true) → ∃ q, Evt (fun k => ipfix_reader_set.l1 k (n : Int) (i : Int) r rb id ts data (suf x a) false tid tf) q ∧ q.2.2.2.1 = r ∧ q.2.2.2.2 = true := by
      intro g hg ⟨q, ⟨m2, e2⟩, hq⟩
      refine ⟨q, ⟨m + m2 + 1, fun k hk => ?_⟩, hq⟩
      obtain ⟨k, rfl⟩ : ∃ z, k = z + 1 := ⟨k - 1, by omega⟩
      exact (hg k (by omega)).trans (e2 k (by omega))
    by_cases c : a + 4 ≤ x.size
    · rw [if_pos c] at h
      obtain ⟨q1, q2⟩ := rnum22_ok x a c
      have p0 := pre_2 (suf x a)
      rw [q1] at e
      simp only at e
      rw [q2] at e
      simp only at e
      by_cases c2 : 32768 ≤ pre (suf x a) 2
      · rw [if_pos c2] at h
        by_cases c3 : a + 8 ≤ x.size
        · rw [if_pos c3] at h
          rw [rnumP_suf x (a + 4) false 4 (by decide) (by omega)] at e
          refine step _ (fun k hk => (set_field k r rb id ts data (suf x a) n i tid tf hlt hlen _ _ _ (e k hk).1 (e k hk).2.1 (e k hk).2.2).trans ((if_pos c2).trans (if_neg (show ¬ (false = true) by decide)))) ?_
          simp only
          rw [ei ()]
          by_cases z : pre (suf x (a + 4)) 4 = 0
          · rw [show (pre (suf x (a + 4)) 4 == 0) = true from beq_iff_eq.2 z]
            exact set_bad r rb id ts hts data _ n _ tid _
          · rw [if_neg z] at h
            rw [show (pre (suf x (a + 4)) 4 == 0) = false from beq_eq_false_iff_ne.2 z, i64_in (pre (suf x a) 2 - 32768) (by omega) (by omega)]
            exact ih (i + 1) (a + 8) _ (by omega) (by simp; omega) h
        · rw [rnumP_suf' x (a + 4) false 4 (by decide) (by decide) (by omega)] at e
          refine step _ (fun k hk => (set_field k r rb id ts data (suf x a) n i tid tf hlt hlen _ _ _ (e k hk).1 (e k hk).2.1 (e k hk).2.2).trans ((if_pos c2).trans (if_pos rfl))) ?_
          exact set_bad r rb id ts hts data _ n _ tid _
      · rw [if_neg c2] at h
        refine step _ (fun k hk => (set_field k r rb id ts data (suf x a) n i tid tf hlt hlen _ _ _ (e k hk).1 (e k hk).2.1 (e k hk).2.2).trans (if_neg c2)) ?_
        simp only
        rw [ei ()]
        exact ih (i + 1) (a + 4) _ (by omega) (by simp; omega) h
    · have hb := rnum22_bad x a c
      have hb2 : (rnumP (rnumP (rnumP (suf x a) false 2).2.1 (rnumP (suf x a) false 2).2.2 2).2.1 (rnumP (rnumP (suf x a) false 2).2.1 (rnumP (suf x a) false 2).2.2 2).2.2 4).2.2 = true := by rw [hb]; exact rnumP_bad _ _
      by_cases c2 : (rnumP (suf x a) false 2).1 ≥ 32768
      · refine step _ (fun k hk => (set_field k r rb id ts data (suf x a) n i tid tf hlt hlen _ _ _ (e k hk).1 (e k hk).2.1 (e k hk).2.2).trans ((if_pos c2).trans (if_pos hb2))) ?_
        exact set_bad r rb id ts hts data _ n _ tid _
      · refine step _ (fun k hk => (set_field k r rb id ts data (suf x a) n i tid tf hlt hlen _ _ _ (e k hk).1 (e k hk).2.1 (e k hk).2.2).trans (if_neg c2)) ?_
        rw [hb]
        exact set_bad r rb id ts hts data _ n _ tid _
theorem set_fields_some (x : ByteArray) (r : ByteArray) (rb : Bool) (id : Int) (ts : List S37) (hts : ts.length < 4398046511104) (data : ByteArray) (n : Nat) (hn : n ≤ 65535) (tid : Int) {R : Int × (List (S37)) × ByteArray × ByteArray × Bool} :
    ∀ (d i a : Nat) (tf fs : List S82) (b : Nat), i + d = n → tf.length ≤ i → fieldsAt x d a tf = some (fs, b) → Evt (fun k => ipfix_reader_set.l0 k r rb id (ts ++ [⟨tid, fs⟩]) data (suf x b) false) R →
      Evt (fun k => ipfix_reader_set.l1 k (n : Int) (i : Int) r rb id ts data (suf x a) false tid tf) R := by
  intro d
  induction d with
  | zero =>
    intro i a tf fs b hi _ h hR
    simp only [fieldsAt, Option.some.injEq, Prod.mk.injEq] at h
    obtain ⟨rfl, rfl⟩ := h
    refine Evt.step hR (fun k => ?_)
    simp only [ipfix_reader_set.l1]
    rw [if_neg (by omega), if_pos hts]
  | succ d ih =>
    intro i a tf fs b hi htf h hR
    rw [fieldsAt] at h
    obtain ⟨m, e⟩ := rnum3 (suf x a)
    have ei : ∀ _ : Unit, wrap64 ((i : Int) + 1) = ((i + 1 : Nat) : Int) := by intro _; rw [i64_in ((i : Int) + 1) (by omega) (by omega)]; omega
    have hlt : (i : Int) < (n : Int) := by omega
    have hlen : tf.length < 5864062014805 := by omega
    have step : ∀ (g : Nat → Option (Int × (List (S37)) × ByteArray × ByteArray × Bool)), (∀ k, m ≤ k → ipfix_reader_set.l1 (k + 1) (n : Int) (i : Int) r rb id ts data (suf x a) false tid tf = g k) →
        Evt g R → Evt (fun k => ipfix_reader_set.l1 k (n : Int) (i : Int) r rb id ts data (suf x a) false tid tf) R := by
      intro g hg ⟨m2, e2⟩
      refine ⟨m + m2 + 1, fun k hk => ?_⟩
      obtain ⟨k, rfl⟩ : ∃ z, k = z + 1 := ⟨k - 1, by omega⟩
      exact (hg k (by omega)).trans (e2 k (by omega))
    by_cases c : a + 4 ≤ x.size
    · rw [if_pos c] at h
      obtain ⟨q1, q2⟩ := rnum22_ok x a c
      have p0 := pre_2 (suf x a)
      rw [q1] at e
      simp only at e
      rw [q2] at e
      simp only at e
      by_cases c2 : 32768 ≤ pre (suf x a) 2
      · rw [if_pos c2] at h
        by_cases c3 : a + 8 ≤ x.size
        · rw [if_pos c3] at h
          rw [rnumP_suf x (a + 4) false 4 (by decide) (by omega)] at e
          refine step _ (fun k hk => (set_field k r rb id ts data (suf x a) n i tid tf hlt hlen _ _ _ (e k hk).1 (e k hk).2.1 (e k hk).2.2).trans ((if_pos c2).trans (if_neg (show ¬ (false = true) by decide)))) ?_
          simp only
          rw [ei ()]
          by_cases z : pre (suf x (a + 4)) 4 = 0
          · rw [if_pos z] at h; cases h
          · rw [if_neg z] at h
            rw [show (pre (suf x (a + 4)) 4 == 0) = false from beq_eq_false_iff_ne.2 z, i64_in (pre (suf x a) 2 - 32768) (by omega) (by omega)]
            exact ih (i + 1) (a + 8) _ fs b (by omega) (by simp; omega) h hR
        · rw [if_neg c3] at h; cases h
      · rw [if_neg c2] at h
        refine step _ (fun k hk => (set_field k r rb id ts data (suf x a) n i tid tf hlt hlen _ _ _ (e k hk).1 (e k hk).2.1 (e k hk).2.2).trans (if_neg c2)) ?_
        simp only
        rw [ei ()]
        exact ih (i + 1) (a + 4) _ fs b (by omega) (by simp; omega) h hR
    · rw [if_neg c] at h; cases h
theorem rnum2' (s : ByteArray) (bad : Bool) : ∃ m, ∀ k, m ≤ k → ipfix_reader_num.f k s bad 2 = some (rnumP s bad 2) ∧ ipfix_reader_num.f k (rnumP s bad 2).2.1 (rnumP s bad 2).2.2 2 = some (rnumP (rnumP s bad 2).2.1 (rnumP s bad 2).2.2 2) := by
  obtain ⟨m1, e1⟩ := rnum_spec s bad 2 (by decide) (by decide)
  obtain ⟨m2, e2⟩ := rnum_spec (rnumP s bad 2).2.1 (rnumP s bad 2).2.2 2 (by decide) (by decide)
  exact ⟨m1 + m2, fun k hk => ⟨e1 k (by omega), e2 k (by omega)⟩⟩
theorem set_end (r : ByteArray) (rb : Bool) (id : Int) (ts : List S37) (data s : ByteArray) (bad : Bool) (h : s.size = 0) : Evt (fun k => ipfix_reader_set.l0 k r rb id ts data s bad) (id, ts, data, r, rb || bad) := by
  have h1 : Evt (fun k => ipfix_reader_set.j1 k false r rb id ts data s bad) (id, ts, data, r, rb || bad) := by
    refine Evt.step (Evt.now (f := fun _ => some _) (fun _ => rfl)) (fun k => ?_)
    simp only [ipfix_reader_set.j1]
    rw [if_neg (by decide)]
    cases rb <;> rfl
  refine Evt.step h1 (fun k => ?_)
  simp only [ipfix_reader_set.l0]
  rw [if_pos ((toList_nil_iff s).2 h)]
/-- one template more -/
theorem set_more (x : ByteArray) (a : Nat) (h : a < x.size) (r : ByteArray) (rb : Bool) (id : Int) (ts : List S37) (data : ByteArray) {R : Int × (List (S37)) × ByteArray × ByteArray × Bool}
    (hR : Evt (fun k => ipfix_reader_set.l1 k (rnumP (rnumP (suf x a) false 2).2.1 (rnumP (suf x a) false 2).2.2 2).1 0 r rb id ts data (rnumP (rnumP (suf x a) false 2).2.1 (rnumP (suf x a) false 2).2.2 2).2.1 (rnumP (rnumP (suf x a) false 2).2.1 (rnumP (suf x a) false 2).2.2 2).2.2 (rnumP (suf x a) false 2).1 []) R) :
    Evt (fun k => ipfix_reader_set.l0 k r rb id ts data (suf x a) false) R := by
  obtain ⟨m, e⟩ := rnum2' (suf x a) false
  have h1 : Evt (fun k => ipfix_reader_set.j1 k true r rb id ts data (suf x a) false) R := by
    obtain ⟨m2, e2⟩ := hR
    refine ⟨m + m2 + 1, fun k hk => ?_⟩
    obtain ⟨k, rfl⟩ : ∃ z, k = z + 1 := ⟨k - 1, by omega⟩
    simp only [ipfix_reader_set.j1]
    rw [if_pos trivial, (e k (by omega)).1, Option.bind_some, (e k (by omega)).2, Option.bind_some]
    exact e2 k (by omega)
  refine Evt.step h1 (fun k => ?_)
  simp only [ipfix_reader_set.l0]
  rw [if_neg (by rw [toList_nil_iff, suf_size]; omega)]
  rfl
theorem set_temps_some (x : ByteArray) (hx : x.size ≤ 1000000) (r : ByteArray) (rb : Bool) (id : Int) (data : ByteArray) : ∀ (m a : Nat) (ts ts' : List S37), a ≤ x.size → ts.length ≤ a → tempsAt x m a ts = some ts' →
    Evt (fun k => ipfix_reader_set.l0 k r rb id ts data (suf x a) false) (id, ts', data, r, rb) ∧ ts'.length ≤ x.size := by
  intro m
  induction m with
  | zero => intro a ts ts' _ _ h; cases h
  | succ m ih =>
    intro a ts ts' ha hts h
    rw [tempsAt] at h
    by_cases c : a < x.size
    · rw [if_pos c] at h
      by_cases c2 : a + 4 ≤ x.size
      · rw [if_pos c2] at h
        obtain ⟨q1, q2⟩ := rnum22_ok x a c2
        have p0 := pre_2 (suf x (a + 2))
        have hN : ((pre (suf x (a + 2)) 2).toNat : Int) = pre (suf x (a + 2)) 2 := by omega
        cases e : fieldsAt x (pre (suf x (a + 2)) 2).toNat (a + 4) [] with
        | none => rw [e] at h; cases h
        | some p =>
          obtain ⟨fs, b⟩ := p
          rw [e] at h
          have hb := fieldsAt_le x _ _ _ _ _ c2 e
          obtain ⟨h1, h2⟩ := ih b (ts ++ [⟨pre (suf x a) 2, fs⟩]) ts' hb.2.1 (by simp; omega) h
          refine ⟨set_more x a c r rb id ts data ?_, h2⟩
          rw [q1]
          simp only
          rw [q2]
          simp only
          rw [← hN]
          exact set_fields_some x r rb id ts (by omega) data _ (by omega) _ _ 0 (a + 4) [] fs b (by omega) (Nat.le_refl _) e h1
      · rw [if_neg c2] at h; cases h
    · rw [if_neg c] at h
      simp only [Option.some.injEq] at h
      subst h
      have := set_end r rb id ts data (suf x a) false (by rw [suf_size]; omega)
      rw [Bool.or_false] at this
      exact ⟨this, by omega⟩
theorem set_temps_none (x : ByteArray) (hx : x.size ≤ 1000000) (r : ByteArray) (rb : Bool) (id : Int) (data : ByteArray) : ∀ (m a : Nat) (ts : List S37), x.size - a < m → a ≤ x.size → ts.length ≤ a → tempsAt x m a ts = none →
    ∃ q, Evt (fun k => ipfix_reader_set.l0 k r rb id ts data (suf x a) false) q ∧ q.2.2.2.1 = r ∧ q.2.2.2.2 = true := by
  intro m
  induction m with
  | zero => intro a ts h; omega
  | succ m ih =>
    intro a ts hm ha hts h
    rw [tempsAt] at h
    by_cases c : a < x.size
    · rw [if_pos c] at h
      by_cases c2 : a + 4 ≤ x.size
      · rw [if_pos c2] at h
        obtain ⟨q1, q2⟩ := rnum22_ok x a c2
        have p0 := pre_2 (suf x (a + 2))
        have hN : ((pre (suf x (a + 2)) 2).toNat : Int) = pre (suf x (a + 2)) 2 := by omega
        cases e : fieldsAt x (pre (suf x (a + 2)) 2).toNat (a + 4) [] with
        | none =>
          obtain ⟨q, h1, h2⟩ := set_fields_none x r rb id ts (by omega) data (pre (suf x (a + 2)) 2).toNat (by omega) (pre (suf x a) 2) _ 0 (a + 4) [] (by omega) (Nat.le_refl _) e
          refine ⟨q, set_more x a c r rb id ts data ?_, h2⟩
          rw [q1]
          simp only
          rw [q2]
          simp only
          rw [← hN]
          exact h1
        | some p =>
          obtain ⟨fs, b⟩ := p
          rw [e] at h
          have hb := fieldsAt_le x _ _ _ _ _ c2 e
          obtain ⟨q, h1, h2⟩ := ih b (ts ++ [⟨pre (suf x a) 2, fs⟩]) (by omega) hb.2.1 (by simp; omega) h
          refine ⟨q, set_more x a c r rb id ts data ?_, h2⟩
          rw [q1]
          simp only
          rw [q2]
          simp only
          rw [← hN]
          exact set_fields_some x r rb id ts (by omega) data _ (by omega) _ _ 0 (a + 4) [] fs b (by omega) (Nat.le_refl _) e h1
      · have hb := rnum22_bad x a c2
        obtain ⟨q, h1, h2⟩ := set_bad r rb id ts (by omega) data (rnumP (rnumP (suf x a) false 2).2.1 (rnumP (suf x a) false 2).2.2 2).2.1 (rnumP (rnumP (suf x a) false 2).2.1 (rnumP (suf x a) false 2).2.2 2).1 0 (rnumP (suf x a) false 2).1 []
        refine ⟨q, set_more x a c r rb id ts data ?_, h2⟩
        rw [hb]
        exact h1
    · rw [if_neg c] at h; cases h

/-- a set at a place, and the place behind; none: there is none -/
def setAt (x : ByteArray) (a : Nat) : Option (S29 × Nat) :=
  if a + 4 ≤ x.size then
    (if 4 ≤ pre (suf x (a + 2)) 2 ∧ a + (pre (suf x (a + 2)) 2).toNat ≤ x.size then
      (if pre (suf x a) 2 = 2 then
        (match tempsAt (x.extract (a + 4) (a + (pre (suf x (a + 2)) 2).toNat)) ((x.extract (a + 4) (a + (pre (suf x (a + 2)) 2).toNat)).size + 1) 0 [] with
         | some ts => some (⟨2, ts, ⟨#[]⟩⟩, a + (pre (suf x (a + 2)) 2).toNat)
         | none => none)
       else some (⟨pre (suf x a) 2, [], x.extract (a + 4) (a + (pre (suf x (a + 2)) 2).toNat)⟩, a + (pre (suf x (a + 2)) 2).toNat))
     else none)
  else none
theorem set_spec (x : ByteArray) (hx : x.size ≤ 1000000) (a : Nat) :
    (∀ s b, setAt x a = some (s, b) → Evt (fun k => ipfix_reader_set.f k (suf x a) false) (s.f0, s.f1, s.f2, suf x b, false) ∧ a + 4 ≤ b ∧ b ≤ x.size ∧ s.f1.length ≤ x.size) ∧
    (setAt x a = none → ∃ q, Evt (fun k => ipfix_reader_set.f k (suf x a) false) q ∧ q.2.2.2.2 = true) := by
  obtain ⟨m, e⟩ := rnum2' (suf x a) false
  have go : ∀ (X Y : Int × ByteArray × Bool), rnumP (suf x a) false 2 = X → rnumP X.2.1 X.2.2 2 = Y → ∀ k, m ≤ k → ipfix_reader_set.f k (suf x a) false = (if X.1 = 2 then ipfix_reader_set.l0 k (rtextP Y.2.1 Y.2.2 (wrap64 (Y.1 - 4))).2.1 (rtextP Y.2.1 Y.2.2 (wrap64 (Y.1 - 4))).2.2 X.1 [] ⟨#[]⟩ (rtextP Y.2.1 Y.2.2 (wrap64 (Y.1 - 4))).1 false else some (X.1, [], (rtextP Y.2.1 Y.2.2 (wrap64 (Y.1 - 4))).1, (rtextP Y.2.1 Y.2.2 (wrap64 (Y.1 - 4))).2.1, (rtextP Y.2.1 Y.2.2 (wrap64 (Y.1 - 4))).2.2)) := by
    rintro X Y rfl rfl k hk
    unfold ipfix_reader_set.f
    rw [(e k hk).1, Option.bind_some, (e k hk).2, Option.bind_some, rtext_spec, Option.bind_some]
    rfl
  -- whatever is not there: nothing is read, and the reader is bad
  have bad : ∀ (X Y : Int × ByteArray × Bool), rnumP (suf x a) false 2 = X → rnumP X.2.1 X.2.2 2 = Y → (rtextP Y.2.1 Y.2.2 (wrap64 (Y.1 - 4))) = (⟨#[]⟩, ⟨#[]⟩, true) → ∃ q, Evt (fun k => ipfix_reader_set.f k (suf x a) false) q ∧ q.2.2.2.2 = true := by
    intro X Y hX hY hz
    have g := go X Y hX hY
    rw [hz] at g
    by_cases c : X.1 = 2
    · obtain ⟨m2, e2⟩ := set_end ⟨#[]⟩ true X.1 [] ⟨#[]⟩ ⟨#[]⟩ false rfl
      exact ⟨(X.1, [], ⟨#[]⟩, ⟨#[]⟩, true), ⟨m + m2, fun k hk => (g k (by omega)).trans ((if_pos c).trans (e2 k (by omega)))⟩, rfl⟩
    · exact ⟨(X.1, [], ⟨#[]⟩, ⟨#[]⟩, true), ⟨m, fun k hk => (g k hk).trans (if_neg c)⟩, rfl⟩
  by_cases c : a + 4 ≤ x.size
  · obtain ⟨q1, q2⟩ := rnum22_ok x a c
    have p0 := pre_2 (suf x (a + 2))
    have p1 := pre_2 (suf x a)
    have hw : ∀ _ : Unit, wrap64 (pre (suf x (a + 2)) 2 - 4) = pre (suf x (a + 2)) 2 - 4 := by intro _; exact i64_in _ (by omega) (by omega)
    by_cases c2 : 4 ≤ pre (suf x (a + 2)) 2 ∧ a + (pre (suf x (a + 2)) 2).toNat ≤ x.size
    · have g := go _ _ q1 q2
      simp only at g
      rw [hw (), rtextP_suf x (a + 4) false _ (by omega) (by omega), show a + 4 + (pre (suf x (a + 2)) 2 - 4).toNat = a + (pre (suf x (a + 2)) 2).toNat by omega] at g
      have hbz : (x.extract (a + 4) (a + (pre (suf x (a + 2)) 2).toNat)).size ≤ x.size := by rw [ByteArray.size_extract]; omega
      unfold setAt
      rw [if_pos c, if_pos c2]
      by_cases c3 : pre (suf x a) 2 = 2
      · rw [if_pos c3]
        cases e3 : tempsAt (x.extract (a + 4) (a + (pre (suf x (a + 2)) 2).toNat)) ((x.extract (a + 4) (a + (pre (suf x (a + 2)) 2).toNat)).size + 1) 0 [] with
        | some ts =>
          refine ⟨fun s b h => ?_, fun h => by cases h⟩
          simp only [Option.some.injEq, Prod.mk.injEq] at h
          obtain ⟨rfl, rfl⟩ := h
          have h1 := set_temps_some _ (by omega) (suf x (a + (pre (suf x (a + 2)) 2).toNat)) false 2 ⟨#[]⟩ _ 0 [] ts (Nat.zero_le _) (Nat.le_refl _) e3
          rw [suf_zero] at h1
          obtain ⟨⟨m2, e2⟩, h2⟩ := h1
          refine ⟨⟨m + m2, fun k hk => ?_⟩, by omega, by omega, by simp only; omega⟩
          refine (g k (by omega)).trans ((if_pos c3).trans ?_)
          rw [c3]
          exact e2 k (by omega)
        | none =>
          refine ⟨fun s b h => (by cases h), fun _ => ?_⟩
          obtain ⟨q, h1, h2⟩ := set_temps_none _ (by omega) (suf x (a + (pre (suf x (a + 2)) 2).toNat)) false 2 ⟨#[]⟩ _ 0 [] (by omega) (Nat.zero_le _) (Nat.le_refl _) e3
          rw [suf_zero] at h1
          obtain ⟨m2, e2⟩ := h1
          refine ⟨q, ⟨m + m2, fun k hk => ?_⟩, h2.2⟩
          refine (g k (by omega)).trans ((if_pos c3).trans ?_)
          rw [c3]
          exact e2 k (by omega)
      · rw [if_neg c3]
        refine ⟨fun s b h => ?_, fun h => by cases h⟩
        simp only [Option.some.injEq, Prod.mk.injEq] at h
        obtain ⟨rfl, rfl⟩ := h
        refine ⟨⟨m, fun k hk => ?_⟩, by omega, by omega, Nat.zero_le _⟩
        exact (g k hk).trans (if_neg c3)
    · unfold setAt
      rw [if_pos c, if_neg c2]
      refine ⟨fun s b h => (by cases h), fun _ => bad _ _ q1 q2 ?_⟩
      simp only
      rw [hw ()]
      exact rtextP_suf' x (a + 4) false _ c (by omega)
  · unfold setAt
    rw [if_neg c]
    refine ⟨fun s b h => (by cases h), fun _ => ?_⟩
    have hz : rnumP (rnumP (suf x a) false 2).2.1 (rnumP (suf x a) false 2).2.2 2 = (0, ⟨#[]⟩, true) := by
      by_cases d : a + 2 ≤ x.size
      · rw [rnumP_suf x a false 2 (by decide) d]
        exact rnumP_suf' x (a + 2) false 2 (by decide) (by decide) (by omega)
      · rw [rnumP_suf' x a false 2 (by decide) (by decide) d]
        rfl
    refine bad _ _ rfl rfl ?_
    rw [hz]
    simp only
    rw [rtextP_eq, if_neg (by rw [i64_in _ (by omega) (by omega)]; omega)]

/-- sets up to the end; none: there are none -/
def takeAt (x : ByteArray) : Nat → Nat → List S29 → Option (List S29)
  | 0, _, _ => none
  | m + 1, a, acc => if a < x.size then (match setAt x a with | some (s, b) => takeAt x m b (acc ++ [s]) | none => none) else some acc
theorem fieldsAt_len (x : ByteArray) : ∀ (n a : Nat) (acc fs : List S82) (b : Nat), fieldsAt x n a acc = some (fs, b) → fs.length = acc.length + n := by
  intro n
  induction n with
  | zero => intro a acc fs b h; simp only [fieldsAt, Option.some.injEq, Prod.mk.injEq] at h; obtain ⟨rfl, rfl⟩ := h; rfl
  | succ n ih =>
    intro a acc fs b h
    rw [fieldsAt] at h
    split at h
    · split at h
      · split at h
        · split at h
          · cases h
          · have := ih _ _ _ _ h; rw [List.length_append, List.length_singleton] at this; omega
        · cases h
      · have := ih _ _ _ _ h; rw [List.length_append, List.length_singleton] at this; omega
    · cases h
theorem tempsAt_len (x : ByteArray) : ∀ (m a : Nat) (acc ts : List S37), (∀ t ∈ acc, t.f1.length ≤ 65535) → tempsAt x m a acc = some ts → ∀ t ∈ ts, t.f1.length ≤ 65535 := by
  intro m
  induction m with
  | zero => intro a acc ts _ h; cases h
  | succ m ih =>
    intro a acc ts ha h
    rw [tempsAt] at h
    split at h
    · split at h
      · cases e : fieldsAt x (pre (suf x (a + 2)) 2).toNat (a + 4) [] with
        | none => rw [e] at h; cases h
        | some p =>
          obtain ⟨fs, b⟩ := p
          rw [e] at h
          refine ih _ _ _ (fun t ht => ?_) h
          rcases List.mem_append.1 ht with ht | ht
          · exact ha t ht
          · rw [List.mem_singleton.1 ht]
            have h1 := fieldsAt_len x _ _ _ _ _ e
            have h2 := pre_2 (suf x (a + 2))
            simp only [List.length_nil] at h1
            simp only; omega
      · cases h
    · simp only [Option.some.injEq] at h
      subst h; exact ha
theorem setAt_len (x : ByteArray) (a : Nat) (s : S29) (b : Nat) (h : setAt x a = some (s, b)) : ∀ t ∈ s.f1, t.f1.length ≤ 65535 := by
  unfold setAt at h
  split at h
  · split at h
    · split at h
      · cases e : tempsAt (x.extract (a + 4) (a + (pre (suf x (a + 2)) 2).toNat)) ((x.extract (a + 4) (a + (pre (suf x (a + 2)) 2).toNat)).size + 1) 0 [] with
        | none => rw [e] at h; cases h
        | some ts =>
          rw [e] at h
          simp only [Option.some.injEq, Prod.mk.injEq] at h
          obtain ⟨rfl, rfl⟩ := h
          exact tempsAt_len _ _ _ _ _ (fun t ht => by cases ht) e
      · simp only [Option.some.injEq, Prod.mk.injEq] at h
        obtain ⟨rfl, rfl⟩ := h
        intro t ht; cases ht
    · cases h
  · cases h
/-- what is told of a message -/
def tookR (t s d : Int) (o : Option (List S29)) : Int × Int × Int × List S29 × Int := match o with | some l => if rightB t s d l = true then (t, s, d, l, 0) else (0, 0, 0, [], 3) | none => (0, 0, 0, [], 3)
def smallS (l : List S29) : Prop := ∀ y ∈ l, y.f1.length ≤ 9223372036854775807 ∧ ∀ t ∈ y.f1, t.f1.length ≤ 9223372036854775807
theorem takeM_l0 (x : ByteArray) (hx : x.size ≤ 1000000) (t s d : Int) : ∀ (m a : Nat) (acc : List S29), x.size - a < m → a ≤ x.size → acc.length ≤ a → smallS acc →
    Evt (fun k => ipfix_Take.l0 k (suf x a) false t s d acc) (tookR t s d (takeAt x m a acc)) := by
  intro m
  induction m with
  | zero => intro a acc h; omega
  | succ m ih =>
    intro a acc hm ha hl hs
    rw [takeAt]
    by_cases c : a < x.size
    · rw [if_pos c]
      have hc : ¬ ((suf x a).toList = ([] : List UInt8)) := by rw [toList_nil_iff, suf_size]; omega
      obtain ⟨h1, h2⟩ := set_spec x hx a
      cases e : setAt x a with
      | none =>
        obtain ⟨q, ⟨m1, e1⟩, hq⟩ := h2 e
        refine ⟨m1 + 2, fun k hk => ?_⟩
        obtain ⟨k, rfl⟩ : ∃ z, k = z + 2 := ⟨k - 2, by omega⟩
        have e1 := e1 (k + 1) (by omega)
        simp only at e1
        simp only [ipfix_Take.l0]
        rw [if_neg hc, if_neg (by decide), e1, Option.bind_some, if_pos (by omega), hq]
        simp only [if_true]
        split <;> rfl
      | some p =>
        obtain ⟨y, b⟩ := p
        obtain ⟨⟨m1, e1⟩, hb1, hb2, hy⟩ := h1 y b e
        have hss : smallS (acc ++ [y]) := by
          intro z hz
          rcases List.mem_append.1 hz with hz | hz
          · exact hs z hz
          · rw [List.mem_singleton.1 hz]
            exact ⟨by omega, fun t ht => by have := setAt_len x a y b e t ht; omega⟩
        obtain ⟨m2, e2⟩ := ih b (acc ++ [y]) (by omega) hb2 (by simp; omega) hss
        refine ⟨m1 + m2 + 1, fun k hk => ?_⟩
        obtain ⟨k, rfl⟩ : ∃ z, k = z + 1 := ⟨k - 1, by omega⟩
        have e1 := e1 k (by omega)
        simp only at e1
        simp only [ipfix_Take.l0]
        rw [if_neg hc, if_neg (by decide), e1, Option.bind_some, if_pos (by omega)]
        exact e2 k (by omega)
    · rw [if_neg c]
      have hc : (suf x a).toList = ([] : List UInt8) := by rw [toList_nil_iff, suf_size]; omega
      refine Evt.step (Evt.now (f := fun _ => some _) (fun _ => rfl)) (fun k => ?_)
      simp only [ipfix_Take.l0]
      rw [if_pos hc, if_neg (by decide), right_spec t s d acc (by omega) hs, Option.bind_some]
      simp only [tookR]
      split <;> rfl
/-- a message -/
def takeM (x : ByteArray) : Int × Int × Int × List S29 × Int :=
  if x.size < 16 then (0, 0, 0, [], 2) else if pre (suf x 0) 2 = 10 then (if pre (suf x 2) 2 = (x.size : Int) then tookR (pre (suf x 4) 4) (pre (suf x 8) 4) (pre (suf x 12) 4) (takeAt x (x.size + 1) 16 []) else (0, 0, 0, [], 13)) else (0, 0, 0, [], 10)
theorem take_spec_m (x : ByteArray) (hx : x.size ≤ 1000000) : Evt (fun k => ipfix_Take.f k x) (takeM x) := by
  unfold takeM
  by_cases c : x.size < 16
  · rw [if_pos c]
    refine Evt.eq (Evt.now (f := fun _ => some _) (fun _ => rfl)) (fun k => ?_)
    unfold ipfix_Take.f
    rw [if_pos (by omega)]
  · rw [if_neg c]
    have n1 := rnumP_suf x 0 false 2 (by decide) (by omega)
    have n2 := rnumP_suf x (0 + 2) false 2 (by decide) (by omega)
    have n3 := rnumP_suf x (0 + 2 + 2) false 4 (by decide) (by omega)
    have n4 := rnumP_suf x (0 + 2 + 2 + 4) false 4 (by decide) (by omega)
    have n5 := rnumP_suf x (0 + 2 + 2 + 4 + 4) false 4 (by decide) (by omega)
    obtain ⟨m1, e1⟩ := rnum_spec (suf x 0) false 2 (by decide) (by decide)
    obtain ⟨m2, e2⟩ := rnum_spec (suf x (0 + 2)) false 2 (by decide) (by decide)
    obtain ⟨m3, e3⟩ := rnum_spec (suf x (0 + 2 + 2)) false 4 (by decide) (by decide)
    obtain ⟨m4, e4⟩ := rnum_spec (suf x (0 + 2 + 2 + 4)) false 4 (by decide) (by decide)
    obtain ⟨m5, e5⟩ := rnum_spec (suf x (0 + 2 + 2 + 4 + 4)) false 4 (by decide) (by decide)
    rw [n1] at e1
    rw [n2] at e2
    rw [n3] at e3
    rw [n4] at e4
    rw [n5] at e5
    obtain ⟨m6, e6⟩ := takeM_l0 x hx (pre (suf x 4) 4) (pre (suf x 8) 4) (pre (suf x 12) 4) (x.size + 1) 16 [] (by omega) (by omega) (Nat.zero_le _) (fun y hy => by cases hy)
    refine ⟨m1 + m2 + m3 + m4 + m5 + m6, fun k hk => ?_⟩
    have e1 := e1 k (by omega)
    have e2 := e2 k (by omega)
    have e3 := e3 k (by omega)
    have e4 := e4 k (by omega)
    have e5 := e5 k (by omega)
    have e6 := e6 k (by omega)
    simp only [Nat.zero_add, Nat.reduceAdd, Int.cast_ofNat_Int, suf_zero] at e1 e2 e3 e4 e5 e6 ⊢
    unfold ipfix_Take.f abi_NoEscape.f
    rw [if_neg (by omega), Option.bind_some, e1, Option.bind_some, e2, Option.bind_some, e3, Option.bind_some, e4, Option.bind_some, e5, Option.bind_some]
    simp only
    by_cases d : pre x 2 = 10
    · rw [if_pos d, if_pos d]
      by_cases f : pre (suf x 2) 2 = (x.size : Int)
      · rw [if_pos f, if_pos f]; exact e6
      · rw [if_neg f, if_neg f]
    · rw [if_neg d, if_neg d]

theorem same22_l0 (id : Int) (l : List S88) (hl : l.length ≤ 1000000) : ∀ (d i : Nat), i + d = l.length → Evt (fun k => rillmeterref22_Same.l0 k (i : Int) id l id l) true := by
  intro d
  induction d with
  | zero =>
    intro i hi
    refine Evt.step (Evt.now (f := fun _ => some _) (fun _ => rfl)) (fun k => ?_)
    simp only [rillmeterref22_Same.l0]
    rw [if_neg (by omega)]
  | succ d ih =>
    intro i hi
    refine Evt.step (ih (i + 1) (by omega)) (fun k => ?_)
    simp only [rillmeterref22_Same.l0]
    rw [if_pos (by omega), if_pos (by omega), if_pos (by omega), if_neg (by simp), i64_in ((i : Int) + 1) (by omega) (by omega), show (i : Int) + 1 = ((i + 1 : Nat) : Int) by omega]
theorem same22_spec (id : Int) (l : List S88) (hl : l.length ≤ 1000000) : Evt (fun k => rillmeterref22_Same.f k id l id l) true := by
  have hj : Evt (fun k => rillmeterref22_Same.j0 k false id l id l) true := by
    refine Evt.step (same22_l0 id l hl l.length 0 (by omega)) (fun k => ?_)
    simp only [rillmeterref22_Same.j0]
    rw [if_neg (by decide)]
    rfl
  refine hj.eq (fun k => ?_)
  unfold rillmeterref22_Same.f
  rw [if_pos rfl, bne_self_eq_false]
theorem equal_l1 (a b c : Int) (L : List S93) (n : Nat) (hn : n ≤ 1000000) (id : Int) (ts : List S46) (data : ByteArray) (hts : ts.length ≤ 1000000) (hb : ∀ t ∈ ts, t.f1.length ≤ 65535) (h : Evt (fun k => rillmeterref22_Equal.l0 k ((n + 1 : Nat) : Int) a b c L a b c L) true) :
    ∀ (d i : Nat), i + d = ts.length → Evt (fun k => rillmeterref22_Equal.l1 k (n : Int) (i : Int) a b c L a b c L id ts data id ts data) true := by
  intro d
  induction d with
  | zero =>
    intro i hi
    refine Evt.step h (fun k => ?_)
    simp only [rillmeterref22_Equal.l1]
    rw [if_neg (by omega), i64_in ((n : Int) + 1) (by omega) (by omega)]
    rfl
  | succ d ih =>
    intro i hi
    have hm : rd_T46 ts (i : Int) ∈ ts := by
      unfold rd_T46
      rw [Int.toNat_natCast, List.getD_eq_getElem?_getD, List.getElem?_eq_getElem (by omega)]
      exact List.getElem_mem _
    obtain ⟨m1, e1⟩ := same22_spec (rd_T46 ts (i : Int)).f0 (rd_T46 ts (i : Int)).f1 (by have := hb _ hm; omega)
    obtain ⟨m2, e2⟩ := ih (i + 1) (by omega)
    refine ⟨m1 + m2 + 1, fun k hk => ?_⟩
    obtain ⟨k, rfl⟩ : ∃ z, k = z + 1 := ⟨k - 1, by omega⟩
    have e1 := e1 k (by omega)
    have e2 := e2 k (by omega)
    simp only at e1 e2
    simp only [rillmeterref22_Equal.l1]
    rw [if_pos (by omega), if_pos (by omega), if_pos (by omega), e1, Option.bind_some, if_pos rfl, i64_in ((i : Int) + 1) (by omega) (by omega), show (i : Int) + 1 = ((i + 1 : Nat) : Int) by omega]
    exact e2
theorem equal_l0 (a b c : Int) (L : List S93) (hL : L.length ≤ 1000000) (hb : ∀ y ∈ L, y.f1.length ≤ 1000000 ∧ ∀ t ∈ y.f1, t.f1.length ≤ 65535) : ∀ (d i : Nat), i + d = L.length → Evt (fun k => rillmeterref22_Equal.l0 k (i : Int) a b c L a b c L) true := by
  intro d
  induction d with
  | zero =>
    intro i hi
    refine Evt.step (Evt.now (f := fun _ => some _) (fun _ => rfl)) (fun k => ?_)
    simp only [rillmeterref22_Equal.l0]
    rw [if_neg (by omega)]
  | succ d ih =>
    intro i hi
    have hm : rd_T93 L (i : Int) ∈ L := by
      unfold rd_T93
      rw [Int.toNat_natCast, List.getD_eq_getElem?_getD, List.getElem?_eq_getElem (by omega)]
      exact List.getElem_mem _
    have hy := hb _ hm
    have h1 := equal_l1 a b c L i (by omega) (rd_T93 L (i : Int)).f0 (rd_T93 L (i : Int)).f1 (rd_T93 L (i : Int)).f2 hy.1 hy.2 (ih (i + 1) (by omega)) (rd_T93 L (i : Int)).f1.length 0 (by omega)
    have h2 : Evt (fun k => rillmeterref22_Equal.j2 k (i : Int) false a b c L a b c L (rd_T93 L (i : Int)).f0 (rd_T93 L (i : Int)).f1 (rd_T93 L (i : Int)).f2 (rd_T93 L (i : Int)).f0 (rd_T93 L (i : Int)).f1 (rd_T93 L (i : Int)).f2) true := by
      refine Evt.step h1 (fun k => ?_)
      simp only [rillmeterref22_Equal.j2]
      rw [if_neg (by decide)]
      rfl
    refine Evt.step h2 (fun k => ?_)
    simp only [rillmeterref22_Equal.l0]
    rw [if_pos (by omega), if_pos (by omega), if_pos (by omega), if_pos trivial, if_pos trivial, bne_self_eq_false]
theorem equal_spec (a b c : Int) (L : List S93) (hL : L.length ≤ 1000000) (hb : ∀ y ∈ L, y.f1.length ≤ 1000000 ∧ ∀ t ∈ y.f1, t.f1.length ≤ 65535) : Evt (fun k => rillmeterref22_Equal.f k a b c L a b c L) true := by
  have hj : Evt (fun k => rillmeterref22_Equal.j0 k false a b c L a b c L) true := by
    refine Evt.step (equal_l0 a b c L hL hb L.length 0 (by omega)) (fun k => ?_)
    simp only [rillmeterref22_Equal.j0]
    rw [if_neg (by decide)]
    rfl
  refine hj.eq (fun k => ?_)
  unfold rillmeterref22_Equal.f
  rw [if_pos rfl, if_pos rfl, if_pos rfl, bne_self_eq_false]

theorem takeM_ok (x : ByteArray) (h : (takeM x).2.2.2.2 = 0) : 16 ≤ x.size ∧ pre (suf x 0) 2 = 10 ∧ pre (suf x 2) 2 = (x.size : Int) := by
  unfold takeM at h
  by_cases c : x.size < 16
  · rw [if_pos c] at h; exact absurd h (by decide)
  · rw [if_neg c] at h
    by_cases d : pre (suf x 0) 2 = 10
    · rw [if_pos d] at h
      by_cases e : pre (suf x 2) 2 = (x.size : Int)
      · exact ⟨by omega, d, e⟩
      · rw [if_neg e] at h; exact absurd h (by decide)
    · rw [if_neg d] at h; exact absurd h (by decide)
theorem takeM_cut (x : ByteArray) (n : Nat) (hn : n < x.size) (h : (takeM x).2.2.2.2 = 0) : takeM (x.extract 0 n) = (0, 0, 0, [], if n < 16 then 2 else 13) := by
  obtain ⟨h1, h2, h3⟩ := takeM_ok x h
  have hz : (x.extract 0 n).size = n := by rw [ByteArray.size_extract]; omega
  unfold takeM
  rw [hz]
  by_cases c : n < 16
  · rw [if_pos c, if_pos c]
  · have e1 : pre (suf (x.extract 0 n) 0) 2 = pre (suf x 0) 2 := pre_congr _ _ _ (fun j hj => by
      rw [suf_zero, suf_zero, bt_extract _ _ _ _ (by omega) (by omega), Nat.zero_add])
    have e2 : pre (suf (x.extract 0 n) 2) 2 = pre (suf x 2) 2 := pre_congr _ _ _ (fun j hj => by
      rw [suf, suf, bt_extract _ _ _ _ (by omega) (Nat.le_refl _), bt_extract _ _ _ _ (by omega) (Nat.le_refl _), bt_extract _ _ _ _ (by omega) (by omega), Nat.zero_add])
    rw [if_neg c, if_neg c, e1, if_pos h2, e2, h3, if_neg (by omega)]
theorem IpfixCut : rillmeterlaw22_IpfixCut.Pure := by
  intro x cut hx hcut
  have hA : Evt (fun k => rillmeterlaw22_IpfixCut.j0 k x cut true) true := by
    refine Evt.step awake_spec (fun k => ?_)
    simp only [rillmeterlaw22_IpfixCut.j0]
    rw [if_pos trivial]
    cases rillmeterlaw22_awake.f k <;> rfl
  suffices h : Evt (fun k => rillmeterlaw22_IpfixCut.f k x cut) true from h.some_
  by_cases c1 : (x.size : Int) > 4096
  · exact hA.eq (fun k => by unfold rillmeterlaw22_IpfixCut.f; rw [if_pos c1])
  · by_cases c2 : cut < 0
    · exact hA.eq (fun k => by unfold rillmeterlaw22_IpfixCut.f; rw [if_neg c1, if_pos c2])
    · by_cases c3 : cut ≥ (x.size : Int)
      · exact hA.eq (fun k => by unfold rillmeterlaw22_IpfixCut.f; rw [if_neg c1, if_neg c2, decide_eq_true c3])
      · obtain ⟨n, rfl⟩ : ∃ n : Nat, cut = n := ⟨cut.toNat, by omega⟩
        have hn : n < x.size := by omega
        obtain ⟨m0, e0⟩ := awake_spec
        obtain ⟨m1, e1⟩ := take_spec_m x (by omega)
        have hz : (x.extract 0 n).size = n := by rw [ByteArray.size_extract]; omega
        obtain ⟨m2, e2⟩ := take_spec_m (x.extract 0 n) (by omega)
        have hb : bndS [] := fun y hy => by cases hy
        obtain ⟨m3, e3⟩ := lref_spec [] (Nat.zero_le _) hb 0 0 0
        obtain ⟨m4, e4⟩ := equal_spec 0 0 0 [] (Nat.zero_le _) (fun y hy => by cases hy)
        have hj : Evt (fun k => rillmeterlaw22_IpfixCut.j0 k x (n : Int) false) true := by
          by_cases d : (takeM x).2.2.2.2 = 0
          · rw [takeM_cut x n hn d] at e2
            refine ⟨m0 + m1 + m2 + m3 + m4 + 1, fun k hk => ?_⟩
            obtain ⟨k, rfl⟩ : ∃ z, k = z + 1 := ⟨k - 1, by omega⟩
            have e0 := e0 k (by omega)
            have e1 := e1 k (by omega)
            have e2 := e2 k (by omega)
            have e3 := e3 k (by omega)
            have e4 := e4 k (by omega)
            simp only at e1 e2 e3 e4
            simp only [rillmeterlaw22_IpfixCut.j0]
            rw [if_neg (by decide), e1, Option.bind_some, if_pos (by omega), if_pos (by omega), Int.toNat_natCast, e2, Option.bind_some, if_pos d]
            simp only
            rw [e3, Option.bind_some]
            simp only [List.map_nil]
            rw [e4, Option.bind_some, if_pos rfl]
            by_cases w : n < 16
            · rw [if_pos w, decide_eq_true (show (n : Int) < 16 by omega), if_pos (by decide), if_pos rfl, e0]; rfl
            · rw [if_neg w, decide_eq_false (show ¬ ((n : Int) < 16) by omega), if_pos (by decide), if_neg (by decide), if_pos rfl, e0]; rfl
          · refine ⟨m0 + m1 + m2 + 1, fun k hk => ?_⟩
            obtain ⟨k, rfl⟩ : ∃ z, k = z + 1 := ⟨k - 1, by omega⟩
            have e0 := e0 k (by omega)
            have e1 := e1 k (by omega)
            have e2 := e2 k (by omega)
            simp only at e1 e2
            simp only [rillmeterlaw22_IpfixCut.j0]
            rw [if_neg (by decide), e1, Option.bind_some, if_pos (by omega), if_pos (by omega), Int.toNat_natCast, e2, Option.bind_some, if_neg d, e0]
            rfl
        exact hj.eq (fun k => by unfold rillmeterlaw22_IpfixCut.f; rw [if_neg c1, if_neg c2, decide_eq_false c3])

end Go.Proofs.Ytojmpdjbhplgkaa.Pure
