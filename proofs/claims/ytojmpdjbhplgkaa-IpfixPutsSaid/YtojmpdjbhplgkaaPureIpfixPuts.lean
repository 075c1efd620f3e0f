/- Any message is written as the document says, or refused, and what is written is taken back. No condition beyond the kinds of the arguments. -/
import Derived.Test.YtojmpdjbhplgkaaPIpfixPutsy
import Derived.Test.YtojmpdjbhplgkaaBits
import Derived.Test.YtojmpdjbhplgkaaEvs
import Derived.Test.YtojmpdjbhplgkaaOcts
namespace Go.Proofs.Ytojmpdjbhplgkaa.Pure
open Go.RowKit Go.Proofs.Ytojmpdjbhplgkaa.PIpfixPuts Go.Proofs.YtojmpdjbhplgkaaW.PrintWords Go.Proofs.YtojmpdjbhplgkaaW.PrintLast Go.Proofs.Ytojmpdjbhplgkaa.Bits Go.Proofs.Ytojmpdjbhplgkaa.Evs Go.Proofs.Ytojmpdjbhplgkaa.Octs
set_option linter.unusedSimpArgs false
set_option linter.unusedVariables false

theorem within_some (n a b : Int) : ∃ t, ipfix_within.f n a b = some t := by
  unfold ipfix_within.f
  by_cases h : n ≥ a
  · exact ⟨_, if_pos h⟩
  · exact ⟨_, if_neg h⟩
theorem wrong_some (a b c : Int) : ∃ t, ipfix_wrong.f a b c = some t := by
  unfold ipfix_wrong.f
  obtain ⟨t1, h1⟩ := within_some a 0 32768
  obtain ⟨t2, h2⟩ := within_some b 0 65536
  obtain ⟨t3, h3⟩ := within_some c 0 4294967296
  rw [h1, h2, h3]
  cases t1 <;> cases t2 <;> exact ⟨_, rfl⟩
theorem field_any (l : List S82) : ∃ t, ipfix_Field_48.any l = some t := by
  induction l with
  | nil => exact ⟨_, rfl⟩
  | cons y l ih =>
    obtain ⟨t, ht⟩ := ih
    obtain ⟨u, hu⟩ := wrong_some y.f0 y.f1 y.f2
    rw [ipfix_Field_48.any, List.foldr_cons, ← ipfix_Field_48.any, ht, ipfix_Field_48.g, hu, Option.bind_some]
    cases u <;> exact ⟨_, rfl⟩
theorem tright_some (id : Int) (l : List S82) (h : l.length ≤ 9223372036854775807) : ∃ t, ipfix_Template_right.f id l = some t := by
  unfold ipfix_Template_right.f
  obtain ⟨t1, h1⟩ := within_some id 256 65536
  obtain ⟨t2, h2⟩ := within_some (l.length : Int) 1 65
  obtain ⟨t3, h3⟩ := field_any l
  rw [h1, h2, ipfix_Field_48.f, if_pos h, h3]
  cases t1 <;> cases t2 <;> exact ⟨_, rfl⟩

def fokB (y : S82) : Bool := decide (0 ≤ y.f0 ∧ y.f0 < 32768) && decide (0 ≤ y.f1 ∧ y.f1 < 65536) && decide (0 ≤ y.f2 ∧ y.f2 < 4294967296)
def trightB (id : Int) (t : List S82) : Bool := decide (256 ≤ id ∧ id < 65536) && decide (1 ≤ t.length ∧ t.length < 65) && t.all fokB
theorem within_spec (n a b : Int) : ipfix_within.f n a b = some (decide (a ≤ n ∧ n < b)) := by
  unfold ipfix_within.f
  by_cases h : n ≥ a
  · rw [if_pos h]; congr 1; exact decide_eq_decide.2 ⟨fun g => ⟨h, g⟩, fun g => g.2⟩
  · rw [if_neg h]; congr 1; exact (decide_eq_false (fun g => h g.1)).symm
theorem wrong_spec (y : S82) : ipfix_wrong.f y.f0 y.f1 y.f2 = some (!fokB y) := by
  unfold ipfix_wrong.f fokB
  rw [within_spec, within_spec, within_spec]
  simp only [Option.bind_some]
  cases decide (0 ≤ y.f0 ∧ y.f0 < 32768) <;> cases decide (0 ≤ y.f1 ∧ y.f1 < 65536) <;> cases decide (0 ≤ y.f2 ∧ y.f2 < 4294967296) <;> rfl
theorem field_any_spec (l : List S82) : ipfix_Field_48.any l = some (!l.all fokB) := by
  induction l with
  | nil => rfl
  | cons y l ih =>
    rw [ipfix_Field_48.any, List.foldr_cons, ← ipfix_Field_48.any, ih, ipfix_Field_48.g, wrong_spec, Option.bind_some, List.all_cons]
    cases fokB y <;> rfl
theorem tright_spec (id : Int) (t : List S82) (h : t.length ≤ 9223372036854775807) : ipfix_Template_right.f id t = some (trightB id t) := by
  unfold ipfix_Template_right.f trightB
  rw [within_spec, within_spec, ipfix_Field_48.f, if_pos h, field_any_spec, show decide ((1 : Int) ≤ (t.length : Int) ∧ (t.length : Int) < 65) = decide (1 ≤ t.length ∧ t.length < 65) from decide_eq_decide.2 (by omega)]
  simp only [Option.bind_some, Bool.not_not]
  cases decide (256 ≤ id ∧ id < 65536) <;> cases decide (1 ≤ t.length ∧ t.length < 65) <;> cases t.all fokB <;> rfl
theorem trightB_fok {id : Int} {t : List S82} (h : trightB id t = true) : (1 ≤ t.length ∧ t.length < 65) ∧ ∀ y ∈ t, fokB y = true := by
  unfold trightB at h
  simp only [Bool.and_eq_true, decide_eq_true_eq, List.all_eq_true] at h
  exact ⟨h.1.2, h.2⟩
theorem fokB_f1 {y : S82} (h : fokB y = true) : 0 ≤ y.f1 ∧ y.f1 < 65536 := by
  unfold fokB at h
  simp only [Bool.and_eq_true, decide_eq_true_eq] at h
  exact h.1.2

def setB (y : S29) : Bool := if y.f0 = 2 then decide (y.f2.size = 0) && (decide (0 < y.f1.length) && y.f1.all fun t => trightB t.f0 t.f1) else decide (256 ≤ y.f0 ∧ y.f0 < 65536) && decide (y.f1.length = 0)
def rightB (a b c : Int) (l : List S29) : Bool := decide (0 ≤ a ∧ a < 4294967296) && (decide (0 ≤ b ∧ b < 4294967296) && (decide (0 ≤ c ∧ c < 4294967296) && l.all setB))
theorem temp_any_spec (l : List S37) (h : ∀ y ∈ l, y.f1.length ≤ 9223372036854775807) : ipfix_Template_55.any l = some (!l.all fun t => trightB t.f0 t.f1) := by
  induction l with
  | nil => rfl
  | cons y l ih =>
    rw [ipfix_Template_55.any, List.foldr_cons, ← ipfix_Template_55.any, ih (fun z hz => h z (List.mem_cons_of_mem _ hz)), ipfix_Template_55.g, tright_spec _ _ (h y List.mem_cons_self), Option.bind_some, Option.bind_some, List.all_cons]
    cases trightB y.f0 y.f1 <;> rfl
theorem set_right_spec (y : S29) (h0 : y.f1.length ≤ 9223372036854775807) (h : ∀ t ∈ y.f1, t.f1.length ≤ 9223372036854775807) : ipfix_Set_right.f y.f0 y.f1 y.f2 = some (setB y) := by
  unfold ipfix_Set_right.f setB
  by_cases c : y.f0 = 2
  · rw [if_pos c, if_pos c]
    by_cases d : y.f2.size = 0
    · rw [if_pos ((toList_nil_iff _).2 d), decide_eq_true d, Bool.true_and]
      by_cases e : 0 < y.f1.length
      · rw [if_pos (by omega), decide_eq_true e, Bool.true_and, ipfix_Template_55.f, if_pos h0, temp_any_spec _ h, Option.bind_some, Bool.not_not]
      · rw [if_neg (by omega), decide_eq_false e, Bool.false_and]
    · rw [if_neg (fun g => d ((toList_nil_iff _).1 g)), decide_eq_false d, Bool.false_and]
  · rw [if_neg c, if_neg c, within_spec, Option.bind_some, show ((y.f1.length : Int) == 0) = decide (y.f1.length = 0) by
      by_cases e : y.f1.length = 0
      · rw [decide_eq_true e, e]; rfl
      · rw [decide_eq_false e]; exact beq_eq_false_iff_ne.2 (by omega)]
    cases decide (256 ≤ y.f0 ∧ y.f0 < 65536) <;> rfl
theorem set_any_spec (l : List S29) (h : ∀ y ∈ l, y.f1.length ≤ 9223372036854775807 ∧ ∀ t ∈ y.f1, t.f1.length ≤ 9223372036854775807) : ipfix_Set_41.any l = some (!l.all setB) := by
  induction l with
  | nil => rfl
  | cons y l ih =>
    have hy := h y List.mem_cons_self
    rw [ipfix_Set_41.any, List.foldr_cons, ← ipfix_Set_41.any, ih (fun z hz => h z (List.mem_cons_of_mem _ hz)), ipfix_Set_41.g, set_right_spec y hy.1 hy.2, Option.bind_some, Option.bind_some, List.all_cons]
    cases setB y <;> rfl
theorem right_spec (a b c : Int) (l : List S29) (hl : l.length ≤ 9223372036854775807) (h : ∀ y ∈ l, y.f1.length ≤ 9223372036854775807 ∧ ∀ t ∈ y.f1, t.f1.length ≤ 9223372036854775807) : ipfix_Right.f a b c l = some (rightB a b c l) := by
  unfold ipfix_Right.f rightB
  rw [within_spec, within_spec, within_spec, ipfix_Set_41.f, if_pos hl, set_any_spec l h]
  simp only [Option.bind_some, Bool.not_not]
  cases decide (0 ≤ a ∧ a < 4294967296) <;> cases decide (0 ≤ b ∧ b < 4294967296) <;> cases decide (0 ≤ c ∧ c < 4294967296) <;> rfl

theorem beB_swp (n : Int) (b : Nat) : swp (fun j _ => n / 2 ^ (8 * (b - 1 - j)) % 256) b (List.replicate b (0 : Int)) = beB n b := by
  rw [swp_all _ _ _ (by simp)]
  apply List.ext_getElem?
  intro j
  rw [List.getElem?_mapIdx]
  by_cases h : j < b
  · simp [beB, h]
  · simp [beB, h]

theorem oput_l0 (n : Int) (b : Nat) (hb : b ≤ 7) : ∀ (d i : Nat), b - i = d → i ≤ b → Evt (fun k => octet_Put.l0 k n (b : Int) (swp (fun j _ => n / 2 ^ (8 * (b - 1 - j)) % 256) i (List.replicate b 0)) (b : Int) (i : Int)) (beS n b, 0) := by
  intro d
  induction d with
  | zero =>
    intro i h0 hi
    have e : i = b := by omega
    subst e
    refine Evt.step (Evt.now (f := fun _ => some (beS n i, (0 : Int))) (fun _ => rfl)) (fun k => ?_)
    simp only [octet_Put.l0]
    rw [if_neg (by omega), beB_swp]
    rfl
  | succ d ih =>
    intro i h0 hi
    refine Evt.step (ih (i + 1) (by omega) (by omega)) (fun k => ?_)
    simp only [octet_Put.l0]
    have hx : (List.replicate b (0 : Int))[i]? = some 0 := by rw [List.getElem?_replicate, if_pos (by omega)]
    have e : wrap64 (8 * wrap64 (wrap64 ((b : Int) - 1) - (i : Int))) = ((8 * (b - 1 - i) : Nat) : Int) := by
      rw [i64_in ((b : Int) - 1) (by omega) (by omega), i64_in ((b : Int) - 1 - (i : Int)) (by omega) (by omega), i64_in _ (by omega) (by omega)]
      omega
    have e2 : shr .i64 n ((8 * (b - 1 - i) : Nat) : Int) = n / 2 ^ (8 * (b - 1 - i)) := by
      unfold shr
      rw [Int.toNat_natCast, Nat.min_eq_left (show 8 * (b - 1 - i) ≤ IntKind.i64.bits by show _ ≤ 64; omega)]
    rw [e, e2, if_pos (by omega), if_pos (by omega), if_pos (by omega), if_pos (by rw [swp_length, List.length_replicate]; omega), i64_in ((i : Int) + 1) (by omega) (by omega), Int.toNat_natCast, show (i : Int) + 1 = ((i + 1 : Nat) : Int) by omega, ← swp_set (fun j _ => n / 2 ^ (8 * (b - 1 - j)) % 256) i (List.replicate b (0 : Int)) 0 hx]

theorem oput_spec (n : Int) (b : Nat) (h1 : 1 ≤ b) (h7 : b ≤ 7) (h0 : 0 ≤ n) (hn : n < 2 ^ (8 * b)) : Evt (fun k => octet_Put.f k n (b : Int)) (beS n b, 0) := by
  have e2 : (shr .i64 n ((8 * b : Nat) : Int) != 0) = false := by
    unfold shr
    rw [Int.toNat_natCast, Nat.min_eq_left (show 8 * b ≤ IntKind.i64.bits by show _ ≤ 64; omega), Int.ediv_eq_zero_of_lt h0 hn]
    rfl
  have e : wrap64 (8 * (b : Int)) = ((8 * b : Nat) : Int) := by rw [i64_in _ (by omega) (by omega)]; omega
  have hA := oput_l0 n b h7 b 0 (by omega) (by omega)
  rw [swp_zero] at hA
  have hj : Evt (fun k => octet_Put.j0 k n (b : Int) false) (beS n b, 0) := by
    refine Evt.step hA (fun k => ?_)
    simp only [octet_Put.j0]
    rw [if_neg (by decide), if_pos (by omega), if_pos (by omega)]
    simp only [Option.bind_some, Int.toNat_natCast, List.length_replicate]
    rfl
  refine hj.eq (fun k => ?_)
  simp only [octet_Put.f]
  rw [if_neg (by omega), if_neg (by omega), if_neg (by omega), e, if_pos (by omega), e2]

theorem oput_long (n : Int) (b : Nat) (h1 : 1 ≤ b) (h7 : b ≤ 7) (h0 : 0 ≤ n) (hn : 2 ^ (8 * b) ≤ n) : Evt (fun k => octet_Put.f k n (b : Int)) (⟨#[]⟩, 1) := by
  have e2 : (shr .i64 n ((8 * b : Nat) : Int) != 0) = true := by
    unfold shr
    rw [Int.toNat_natCast, Nat.min_eq_left (show 8 * b ≤ IntKind.i64.bits by show _ ≤ 64; omega)]
    have hp : (0 : Int) < 2 ^ (8 * b) := Int.pow_pos (by decide)
    have : 1 ≤ n / 2 ^ (8 * b) := (Int.le_ediv_iff_mul_le hp).2 (by omega)
    exact bne_iff_ne.2 (by omega)
  have e : wrap64 (8 * (b : Int)) = ((8 * b : Nat) : Int) := by rw [i64_in _ (by omega) (by omega)]; omega
  have hj : Evt (fun k => octet_Put.j0 k n (b : Int) true) (⟨#[]⟩, 1) := by
    refine Evt.step (Evt.now (f := fun _ => some ((⟨#[]⟩ : ByteArray), (1 : Int))) (fun _ => rfl)) (fun k => ?_)
    simp only [octet_Put.j0]
    rw [if_pos trivial]
  refine hj.eq (fun k => ?_)
  simp only [octet_Put.f]
  rw [if_neg (by omega), if_neg (by omega), if_neg (by omega), e, if_pos (by omega), e2]

theorem put_spec (n : Int) (b : Nat) (h1 : 1 ≤ b) (h7 : b ≤ 7) (h0 : 0 ≤ n) (hn : n < 2 ^ (8 * b)) : Evt (fun k => ipfix_put.f k n (b : Int)) (beS n b) :=
  (Evt.bind (f := fun k => octet_Put.f k n (b : Int)) (g := fun _ (bt : ByteArray × Int) => some bt.1) (oput_spec n b h1 h7 h0 hn) (Evt.now fun _ => rfl)).eq (fun k => rfl)
theorem put2_spec (n : Int) (h0 : 0 ≤ n) (hn : n < 65536) : ∃ m, ∀ k, m ≤ k → ipfix_put.f k n 2 = some (beS n 2) := put_spec n 2 (by decide) (by decide) h0 (by simpa using hn)
theorem put4_spec (n : Int) (h0 : 0 ≤ n) (hn : n < 4294967296) : ∃ m, ∀ k, m ≤ k → ipfix_put.f k n 4 = some (beS n 4) := put_spec n 4 (by decide) (by decide) h0 (by simpa using hn)
theorem put1_spec (n : Int) (h0 : 0 ≤ n) (hn : n < 256) : ∃ m, ∀ k, m ≤ k → ipfix_put.f k n 1 = some (beS n 1) := put_spec n 1 (by decide) (by decide) h0 (by simpa using hn)
theorem oput2_spec (n : Int) (h0 : 0 ≤ n) (hn : n < 65536) : ∃ m, ∀ k, m ≤ k → octet_Put.f k n 2 = some (beS n 2, 0) := oput_spec n 2 (by decide) (by decide) h0 (by simpa using hn)
theorem oput2_long (n : Int) (hn : 65536 ≤ n) : ∃ m, ∀ k, m ≤ k → octet_Put.f k n 2 = some (⟨#[]⟩, 1) := oput_long n 2 (by decide) (by decide) (by omega) (by simpa using hn)

theorem awake22 : rillmeterlaw22_awake.f 40 = some true := by decide +kernel
theorem awake_spec : ∃ m, ∀ k, m ≤ k → rillmeterlaw22_awake.f k = some true := by
  refine ⟨40, fun k hk => ?_⟩
  induction hk with
  | refl => exact awake22
  | step _ ih => exact rillmeterlaw22_awake.mono _ _ ih

/-- fields as the document's -/
def cvF (y : S82) : S88 := ⟨y.f0, y.f1, y.f2⟩
theorem tref_l0 (id : Int) (t : List S82) (ht : t.length ≤ 5864062014700) : ∀ (d i : Nat), i + d = t.length → Evt (fun k => rillmeterlaw22_tref.l0 k t (t.length : Int) (i : Int) id ((t.take i).map cvF)) (id, t.map cvF) := by
  intro d
  induction d with
  | zero =>
    intro i h
    refine Evt.step (Evt.now (f := fun _ => some (id, t.map cvF)) (fun _ => rfl)) (fun k => ?_)
    simp only [rillmeterlaw22_tref.l0]
    rw [if_neg (by omega), List.take_of_length_le (by omega)]
  | succ d ih =>
    intro i h
    refine Evt.step (ih (i + 1) (by omega)) (fun k => ?_)
    simp only [rillmeterlaw22_tref.l0]
    have e : t.take (i + 1) = t.take i ++ [rd_T82 t (i : Int)] := by
      rw [List.take_add_one, List.getElem?_eq_getElem (by omega)]
      simp [rd_T82, List.getD_eq_getElem?_getD, show i < t.length by omega]
    rw [if_pos (by omega), if_pos (by omega), if_pos (by omega), if_pos (by rw [List.length_map, List.length_take]; omega), i64_in ((i : Int) + 1) (by omega) (by omega), show (i : Int) + 1 = ((i + 1 : Nat) : Int) by omega, e, List.map_append]
    rfl
theorem tref_spec (id : Int) (t : List S82) (ht : t.length ≤ 5864062014700) : Evt (fun k => rillmeterlaw22_tref.f k id t) (id, t.map cvF) :=
  (tref_l0 id t ht t.length 0 (by omega)).eq (fun k => rfl)

/-- bounds of what a message leads to; wide ones, of a message that came in -/
def bndW (l : List S29) : Prop := ∀ y ∈ l, y.f1.length ≤ 4398046510976 ∧ ∀ t ∈ y.f1, t.f1.length ≤ 5864062014634
def bndS (l : List S29) : Prop := ∀ y ∈ l, y.f1.length ≤ 1000000 ∧ ∀ t ∈ y.f1, t.f1.length ≤ 65535
def cvT (t : S37) : S46 := ⟨t.f0, t.f1.map cvF⟩
/-- a set as the document's -/
def cvS (y : S29) : S93 := ⟨y.f0, y.f1.map cvT, y.f2⟩
theorem lref_l1 (l : List S29) (n : Nat) (hn : n ≤ 2932031007317) (a b c : Int) (acc : List S93) (hacc : acc.length ≤ 2932031007317) (id : Int) (data : ByteArray) (ts : List S37) (hts : ts.length ≤ 4398046510976) (hb : ∀ t ∈ ts, t.f1.length ≤ 5864062014634) {R : Int × Int × Int × List S93}
    (h : Evt (fun k => rillmeterlaw22_ref.l0 k l (l.length : Int) ((n + 1 : Nat) : Int) a b c (acc ++ [⟨id, ts.map cvT, data⟩])) R) :
    ∀ (d i : Nat), i + d = ts.length → Evt (fun k => rillmeterlaw22_ref.l1 k l (l.length : Int) (n : Int) ts (ts.length : Int) (i : Int) a b c acc id ((ts.take i).map cvT) data) R := by
  intro d
  induction d with
  | zero =>
    intro i hi
    refine Evt.step h (fun k => ?_)
    simp only [rillmeterlaw22_ref.l1]
    rw [if_neg (by omega), if_pos (by omega), i64_in ((n : Int) + 1) (by omega) (by omega), List.take_of_length_le (by omega)]
    rfl
  | succ d ih =>
    intro i hi
    have hm : rd_T37 ts (i : Int) ∈ ts := by
      unfold rd_T37
      rw [Int.toNat_natCast, List.getD_eq_getElem?_getD, List.getElem?_eq_getElem (by omega)]
      exact List.getElem_mem _
    have e : ts.take (i + 1) = ts.take i ++ [rd_T37 ts (i : Int)] := by
      rw [List.take_add_one, List.getElem?_eq_getElem (by omega)]
      simp [rd_T37, List.getD_eq_getElem?_getD, show i < ts.length by omega]
    obtain ⟨m1, e1⟩ := tref_spec (rd_T37 ts (i : Int)).f0 (rd_T37 ts (i : Int)).f1 (by have := hb _ hm; omega)
    obtain ⟨m2, e2⟩ := ih (i + 1) (by omega)
    refine ⟨m1 + m2 + 1, fun k hk => ?_⟩
    obtain ⟨k, rfl⟩ : ∃ z, k = z + 1 := ⟨k - 1, by omega⟩
    have e1 := e1 k (by omega)
    have e2 := e2 k (by omega)
    simp only at e1 e2
    rw [e, List.map_append] at e2
    simp only [rillmeterlaw22_ref.l1]
    rw [if_pos (by omega), if_pos (by omega), if_pos (by omega), e1, Option.bind_some, if_pos (by rw [List.length_map, List.length_take]; omega), i64_in ((i : Int) + 1) (by omega) (by omega), show (i : Int) + 1 = ((i + 1 : Nat) : Int) by omega]
    exact e2
theorem lref_l0 (l : List S29) (hl : l.length ≤ 2932031007317) (hb : bndW l) (a b c : Int) : ∀ (d i : Nat), i + d = l.length → Evt (fun k => rillmeterlaw22_ref.l0 k l (l.length : Int) (i : Int) a b c ((l.take i).map cvS)) (a, b, c, l.map cvS) := by
  intro d
  induction d with
  | zero =>
    intro i hi
    refine Evt.step (Evt.now (f := fun _ => some _) (fun _ => rfl)) (fun k => ?_)
    simp only [rillmeterlaw22_ref.l0]
    rw [if_neg (by omega), List.take_of_length_le (by omega)]
  | succ d ih =>
    intro i hi
    have hm : rd_T29 l (i : Int) ∈ l := by
      unfold rd_T29
      rw [Int.toNat_natCast, List.getD_eq_getElem?_getD, List.getElem?_eq_getElem (by omega)]
      exact List.getElem_mem _
    have e : l.take (i + 1) = l.take i ++ [rd_T29 l (i : Int)] := by
      rw [List.take_add_one, List.getElem?_eq_getElem (by omega)]
      simp [rd_T29, List.getD_eq_getElem?_getD, show i < l.length by omega]
    have hI := ih (i + 1) (by omega)
    rw [e, List.map_append] at hI
    have hy := hb _ hm
    refine Evt.step (lref_l1 l i (by omega) a b c ((l.take i).map cvS) (by rw [List.length_map, List.length_take]; omega) (rd_T29 l (i : Int)).f0 (rd_T29 l (i : Int)).f2 (rd_T29 l (i : Int)).f1 hy.1 hy.2 hI (rd_T29 l (i : Int)).f1.length 0 (by omega)) (fun k => ?_)
    simp only [rillmeterlaw22_ref.l0]
    rw [if_pos (by omega), if_pos (by omega), if_pos (by omega)]
    rfl
theorem lref_wide (l : List S29) (hl : l.length ≤ 2932031007317) (hb : bndW l) (a b c : Int) : Evt (fun k => rillmeterlaw22_ref.f k a b c l) (a, b, c, l.map cvS) :=
  (lref_l0 l hl hb a b c l.length 0 (by omega)).eq (fun k => rfl)
theorem lref_spec (l : List S29) (hl : l.length ≤ 1000000) (hb : bndS l) (a b c : Int) : Evt (fun k => rillmeterlaw22_ref.f k a b c l) (a, b, c, l.map cvS) :=
  lref_wide l (by omega) (fun y hy => ⟨by have := (hb y hy).1; omega, fun t ht => by have := (hb y hy).2 t ht; omega⟩) a b c

theorem in_spec (n a b : Int) : rillmeterref22_in.f n a b = some (decide (a ≤ n ∧ n ≤ b)) := by
  unfold rillmeterref22_in.f
  by_cases h : n ≥ a
  · rw [if_pos h]; congr 1; exact decide_eq_decide.2 ⟨fun g => ⟨h, g⟩, fun g => g.2⟩
  · rw [if_neg h]; congr 1; exact (decide_eq_false (fun g => h g.1)).symm
theorem drop82 (t : List S82) (i : Nat) (h : i < t.length) : t.drop i = rd_T82 t (i : Int) :: t.drop (i + 1) := by
  rw [List.drop_eq_getElem_cons h]
  simp [rd_T82, List.getD_eq_getElem?_getD, h]
theorem rd88 (t : List S82) (i : Nat) (h : i < t.length) : rd_T88 (t.map cvF) (i : Int) = cvF (rd_T82 t (i : Int)) := by
  simp [rd_T82, rd_T88, List.getD_eq_getElem?_getD, h]
theorem sound_l0 (id : Int) (t : List S82) (ht : t.length ≤ 1000000) : ∀ (d i : Nat), i + d = t.length → Evt (fun k => rillmeterref22_Sound.l0 k (i : Int) id (t.map cvF)) (decide (256 ≤ id ∧ id < 65536) && decide (1 ≤ t.length ∧ t.length < 65) && (t.drop i).all fokB) := by
  intro d
  induction d with
  | zero =>
    intro i h
    refine Evt.step (Evt.now (f := fun _ => some _) (fun _ => rfl)) (fun k => ?_)
    simp only [rillmeterref22_Sound.l0]
    rw [if_neg (by rw [List.length_map]; omega), in_spec, in_spec, List.length_map, List.drop_of_length_le (by omega), List.all_nil, Bool.and_true, show decide (256 ≤ id ∧ id ≤ 65535) = decide (256 ≤ id ∧ id < 65536) from decide_eq_decide.2 (by omega), show decide ((1 : Int) ≤ (t.length : Int) ∧ (t.length : Int) ≤ 64) = decide (1 ≤ t.length ∧ t.length < 65) from decide_eq_decide.2 (by omega)]
    cases decide (256 ≤ id ∧ id < 65536) <;> rfl
  | succ d ih =>
    intro i h
    have hF : fokB (rd_T82 t (i : Int)) = (decide (0 ≤ (rd_T82 t (i : Int)).f0 ∧ (rd_T82 t (i : Int)).f0 ≤ 32767) && decide (0 ≤ (rd_T82 t (i : Int)).f1 ∧ (rd_T82 t (i : Int)).f1 ≤ 65535) && decide (0 ≤ (rd_T82 t (i : Int)).f2 ∧ (rd_T82 t (i : Int)).f2 ≤ 4294967295)) := by
      unfold fokB
      congr 1
      · congr 1 <;> exact decide_eq_decide.2 (by omega)
      · exact decide_eq_decide.2 (by omega)
    rw [drop82 t i (by omega), List.all_cons]
    have key : ∀ k, rillmeterref22_Sound.l0 (k + 1) (i : Int) id (t.map cvF) = if fokB (rd_T82 t (i : Int)) = true then rillmeterref22_Sound.l0 k ((i + 1 : Nat) : Int) id (t.map cvF) else some false := by
      intro k
      simp only [rillmeterref22_Sound.l0]
      rw [if_pos (by rw [List.length_map]; omega), if_pos (by omega), rd88 t i (by omega), i64_in ((i : Int) + 1) (by omega) (by omega), show (i : Int) + 1 = ((i + 1 : Nat) : Int) by omega]
      simp only [cvF, in_spec, Option.bind_some]
      rw [hF]
      cases decide (0 ≤ (rd_T82 t (i : Int)).f0 ∧ (rd_T82 t (i : Int)).f0 ≤ 32767) <;> cases decide (0 ≤ (rd_T82 t (i : Int)).f1 ∧ (rd_T82 t (i : Int)).f1 ≤ 65535) <;> cases decide (0 ≤ (rd_T82 t (i : Int)).f2 ∧ (rd_T82 t (i : Int)).f2 ≤ 4294967295) <;> rfl
    cases hf : fokB (rd_T82 t (i : Int)) with
    | true =>
      rw [Bool.true_and]
      exact Evt.step (ih (i + 1) (by omega)) (fun k => by rw [key, if_pos hf])
    | false =>
      rw [Bool.false_and, Bool.and_false]
      exact Evt.step (Evt.now (f := fun _ => some false) (fun _ => rfl)) (fun k => by rw [key, hf]; rfl)
theorem sound_spec (id : Int) (t : List S82) (ht : t.length ≤ 1000000) : Evt (fun k => rillmeterref22_Sound.f k id (t.map cvF)) (trightB id t) :=
  (sound_l0 id t ht t.length 0 (by omega)).eq (fun k => rfl)

theorem drop29 (l : List S29) (i : Nat) (h : i < l.length) : l.drop i = rd_T29 l (i : Int) :: l.drop (i + 1) := by
  rw [List.drop_eq_getElem_cons h]
  simp [rd_T29, List.getD_eq_getElem?_getD, h]
theorem drop37 (l : List S37) (i : Nat) (h : i < l.length) : l.drop i = rd_T37 l (i : Int) :: l.drop (i + 1) := by
  rw [List.drop_eq_getElem_cons h]
  simp [rd_T37, List.getD_eq_getElem?_getD, h]
theorem rd93 (l : List S29) (i : Nat) (h : i < l.length) : rd_T93 (l.map cvS) (i : Int) = cvS (rd_T29 l (i : Int)) := by
  simp [rd_T29, rd_T93, List.getD_eq_getElem?_getD, h]
theorem rd46 (l : List S37) (i : Nat) (h : i < l.length) : rd_T46 (l.map cvT) (i : Int) = cvT (rd_T37 l (i : Int)) := by
  simp [rd_T37, rd_T46, List.getD_eq_getElem?_getD, h]
theorem rright_l1 (a b c : Int) (L : List S93) (n : Nat) (hn : n ≤ 1000000) (id : Int) (data : ByteArray) (ts : List S37) (hts : ts.length ≤ 1000000) (hb : ∀ t ∈ ts, t.f1.length ≤ 65535) {R : Bool} :
    ∀ (d i : Nat), i + d = ts.length → (if (ts.drop i).all (fun t => trightB t.f0 t.f1) = true then Evt (fun k => rillmeterref22_Right.l0 k ((n + 1 : Nat) : Int) a b c L) R else R = false) →
      Evt (fun k => rillmeterref22_Right.l1 k (n : Int) (i : Int) a b c L id (ts.map cvT) data) R := by
  intro d
  induction d with
  | zero =>
    intro i hi h
    rw [List.drop_of_length_le (by omega), List.all_nil, if_pos rfl] at h
    refine Evt.step h (fun k => ?_)
    simp only [rillmeterref22_Right.l1]
    rw [if_neg (by rw [List.length_map]; omega), i64_in ((n : Int) + 1) (by omega) (by omega)]
    rfl
  | succ d ih =>
    intro i hi h
    rw [drop37 ts i (by omega), List.all_cons] at h
    have hm : rd_T37 ts (i : Int) ∈ ts := by
      have : rd_T37 ts (i : Int) ∈ ts.drop i := by rw [drop37 ts i (by omega)]; exact List.mem_cons_self
      exact List.mem_of_mem_drop this
    obtain ⟨m1, e1⟩ := sound_spec (rd_T37 ts (i : Int)).f0 (rd_T37 ts (i : Int)).f1 (by have := hb _ hm; omega)
    have step : Evt (fun k => if trightB (rd_T37 ts (i : Int)).f0 (rd_T37 ts (i : Int)).f1 = true then rillmeterref22_Right.l1 k (n : Int) ((i + 1 : Nat) : Int) a b c L id (ts.map cvT) data else some false) R → Evt (fun k => rillmeterref22_Right.l1 k (n : Int) (i : Int) a b c L id (ts.map cvT) data) R := by
      intro ⟨m2, e2⟩
      refine ⟨m1 + m2 + 1, fun k hk => ?_⟩
      obtain ⟨k, rfl⟩ : ∃ z, k = z + 1 := ⟨k - 1, by omega⟩
      have e1 := e1 k (by omega)
      simp only at e1
      simp only [rillmeterref22_Right.l1]
      rw [if_pos (by rw [List.length_map]; omega), if_pos (by omega), rd46 ts i (by omega)]
      simp only [cvT]
      rw [e1, Option.bind_some, i64_in ((i : Int) + 1) (by omega) (by omega), show (i : Int) + 1 = ((i + 1 : Nat) : Int) by omega]
      exact e2 k (by omega)
    refine step ?_
    cases hc : trightB (rd_T37 ts (i : Int)).f0 (rd_T37 ts (i : Int)).f1 with
    | true =>
      rw [hc, Bool.true_and] at h
      exact (ih (i + 1) (by omega) h).eq (fun k => if_pos rfl)
    | false =>
      rw [hc, Bool.false_and, if_neg (by decide)] at h
      subst h
      exact Evt.now (fun k => if_neg (by decide))
theorem rright_l0 (a b c : Int) (l : List S29) (hl : l.length ≤ 1000000) (hb : bndS l) : ∀ (d i : Nat), i + d = l.length → Evt (fun k => rillmeterref22_Right.l0 k (i : Int) a b c (l.map cvS)) (decide (0 ≤ a ∧ a < 4294967296) && (decide (0 ≤ b ∧ b < 4294967296) && (decide (0 ≤ c ∧ c < 4294967296) && (l.drop i).all setB))) := by
  intro d
  induction d with
  | zero =>
    intro i hi
    refine Evt.step (Evt.now (f := fun _ => some _) (fun _ => rfl)) (fun k => ?_)
    simp only [rillmeterref22_Right.l0]
    rw [if_neg (by rw [List.length_map]; omega), in_spec, in_spec, in_spec, List.drop_of_length_le (by omega), List.all_nil, show decide (0 ≤ a ∧ a ≤ 4294967295) = decide (0 ≤ a ∧ a < 4294967296) from decide_eq_decide.2 (by omega), show decide (0 ≤ b ∧ b ≤ 4294967295) = decide (0 ≤ b ∧ b < 4294967296) from decide_eq_decide.2 (by omega), show decide (0 ≤ c ∧ c ≤ 4294967295) = decide (0 ≤ c ∧ c < 4294967296) from decide_eq_decide.2 (by omega)]
    cases decide (0 ≤ a ∧ a < 4294967296) <;> cases decide (0 ≤ b ∧ b < 4294967296) <;> cases decide (0 ≤ c ∧ c < 4294967296) <;> rfl
  | succ d ih =>
    intro i hi
    rw [drop29 l i (by omega), List.all_cons]
    have hm : rd_T29 l (i : Int) ∈ l := by
      have : rd_T29 l (i : Int) ∈ l.drop i := by rw [drop29 l i (by omega)]; exact List.mem_cons_self
      exact List.mem_of_mem_drop this
    have hbm := hb _ hm
    have hI := ih (i + 1) (by omega)
    generalize hy : rd_T29 l (i : Int) = y at *
    generalize hA : (l.drop (i + 1)).all setB = A at *
    have rd : rd_T93 (l.map cvS) (i : Int) = cvS y := by rw [rd93 l i (by omega), hy]
    have fin : ∀ (g : Nat → Option Bool), (∀ k, rillmeterref22_Right.l0 (k + 1) (i : Int) a b c (l.map cvS) = g k) → setB y = false → Evt g false → Evt (fun k => rillmeterref22_Right.l0 k (i : Int) a b c (l.map cvS)) (decide (0 ≤ a ∧ a < 4294967296) && (decide (0 ≤ b ∧ b < 4294967296) && (decide (0 ≤ c ∧ c < 4294967296) && (setB y && A)))) := by
      intro g hg hs h
      rw [hs, Bool.false_and, Bool.and_false, Bool.and_false, Bool.and_false]
      exact Evt.step h hg
    have open_ : ∀ k, rillmeterref22_Right.l0 (k + 1) (i : Int) a b c (l.map cvS) = (if y.f0 = 2 then (if (y.f2.size : Int) > 0 then (some false) else (if (y.f1.length : Int) = 0 then (some false) else (rillmeterref22_Right.j1 k (i : Int) a b c (l.map cvS) y.f0 (y.f1.map cvT) y.f2))) else (if decide (256 ≤ y.f0 ∧ y.f0 ≤ 65535) = true then (if (y.f1.length : Int) > 0 then (some false) else (rillmeterref22_Right.j1 k (i : Int) a b c (l.map cvS) y.f0 (y.f1.map cvT) y.f2)) else (some false))) := by
      intro k
      simp only [rillmeterref22_Right.l0]
      rw [if_pos (by rw [List.length_map]; omega), if_pos (by omega), rd]
      simp only [cvS, List.length_map, in_spec, Option.bind_some]
    have j1 : ∀ R, (if y.f1.all (fun t => trightB t.f0 t.f1) = true then Evt (fun k => rillmeterref22_Right.l0 k ((i + 1 : Nat) : Int) a b c (l.map cvS)) R else R = false) → Evt (fun k => rillmeterref22_Right.j1 k (i : Int) a b c (l.map cvS) y.f0 (y.f1.map cvT) y.f2) R := by
      intro R h
      refine Evt.step (rright_l1 a b c (l.map cvS) i (by omega) y.f0 y.f2 y.f1 hbm.1 hbm.2 y.f1.length 0 (by omega) (by rw [List.drop_zero]; exact h)) (fun k => ?_)
      simp only [rillmeterref22_Right.j1]
      rfl
    by_cases c1 : y.f0 = 2
    · by_cases c2 : y.f2.size = 0
      · by_cases c3 : 0 < y.f1.length
        · have hs : setB y = y.f1.all fun t => trightB t.f0 t.f1 := by unfold setB; rw [if_pos c1, decide_eq_true c2, decide_eq_true c3, Bool.true_and, Bool.true_and]
          refine Evt.step (j1 _ ?_) (fun k => (open_ k).trans ((if_pos c1).trans ((if_neg (by omega)).trans (if_neg (by omega)))))
          rw [hs]
          cases hz : y.f1.all fun t => trightB t.f0 t.f1 with
          | true => rw [if_pos rfl, Bool.true_and]; exact hI
          | false => rw [if_neg (by decide), Bool.false_and, Bool.and_false, Bool.and_false, Bool.and_false]
        · exact fin _ (fun k => (open_ k).trans ((if_pos c1).trans ((if_neg (by omega)).trans (if_pos (by omega))))) (by unfold setB; rw [if_pos c1, decide_eq_false c3, Bool.false_and, Bool.and_false]) (Evt.now fun _ => rfl)
      · exact fin _ (fun k => (open_ k).trans ((if_pos c1).trans (if_pos (by omega)))) (by unfold setB; rw [if_pos c1, decide_eq_false c2, Bool.false_and]) (Evt.now fun _ => rfl)
    · by_cases c2 : 256 ≤ y.f0 ∧ y.f0 ≤ 65535
      · by_cases c3 : y.f1.length = 0
        · have hs : setB y = true := by unfold setB; rw [if_neg c1, decide_eq_true c3, decide_eq_true (by omega)]; rfl
          have hnil : y.f1 = [] := List.length_eq_zero_iff.1 c3
          refine Evt.step (j1 _ ?_) (fun k => (open_ k).trans ((if_neg c1).trans ((if_pos (decide_eq_true c2)).trans (if_neg (by omega)))))
          rw [hnil, List.all_nil, if_pos rfl, hs, Bool.true_and]
          exact hI
        · exact fin _ (fun k => (open_ k).trans ((if_neg c1).trans ((if_pos (decide_eq_true c2)).trans (if_pos (by omega))))) (by unfold setB; rw [if_neg c1, decide_eq_false c3, Bool.and_false]) (Evt.now fun _ => rfl)
      · exact fin _ (fun k => (open_ k).trans ((if_neg c1).trans (if_neg (by rw [decide_eq_false c2]; decide)))) (by unfold setB; rw [if_neg c1, decide_eq_false (by omega), Bool.false_and]) (Evt.now fun _ => rfl)
theorem rright_spec (a b c : Int) (l : List S29) (hl : l.length ≤ 1000000) (hb : bndS l) : Evt (fun k => rillmeterref22_Right.f k a b c (l.map cvS)) (rightB a b c l) :=
  (rright_l0 a b c l hl hb l.length 0 (by omega)).eq (fun k => rfl)

theorem rpower_l0 (b : Nat) (hb : b ≤ 7) : ∀ (d i : Nat), i + d = b → Evt (fun k => rillmeterref04_power.l0 k (b : Int) (2 ^ (8 * i)) (i : Int)) (2 ^ (8 * b)) := by
  intro d
  induction d with
  | zero =>
    intro i h
    refine Evt.step (Evt.now (f := fun _ => some _) (fun _ => rfl)) (fun k => ?_)
    simp only [rillmeterref04_power.l0]
    rw [if_neg (by omega), show i = b by omega]
  | succ d ih =>
    intro i h
    refine Evt.step (ih (i + 1) (by omega)) (fun k => ?_)
    simp only [rillmeterref04_power.l0]
    have h2 : (2 : Int) ^ (8 * i) ≤ 2 ^ 48 := by
      have := Nat.pow_le_pow_right (show 0 < 2 by decide) (show 8 * i ≤ 48 by omega)
      exact_mod_cast this
    have h3 : (2 : Int) ^ 48 = 281474976710656 := by decide
    have h4 : (0 : Int) < 2 ^ (8 * i) := Int.pow_pos (by decide)
    rw [if_pos (by omega), i64_in ((2 : Int) ^ (8 * i) * 256) (by omega) (by omega), i64_in ((i : Int) + 1) (by omega) (by omega), show (i : Int) + 1 = ((i + 1 : Nat) : Int) by omega, show 8 * (i + 1) = 8 * i + 8 by omega, Int.pow_add]
    rfl
theorem rpower_spec (b : Nat) (hb : b ≤ 7) : Evt (fun k => rillmeterref04_power.f k (b : Int)) (2 ^ (8 * b)) :=
  (rpower_l0 b hb b 0 (by omega)).eq (fun k => rfl)

theorem beS_step (n : Int) (b i : Nat) (h : i < b) (h0 : 0 ≤ n) : beS (n / 2 ^ (8 * i)) (b - i) = beS (n / 2 ^ (8 * (i + 1))) (b - (i + 1)) ++ strOfNums [n / 2 ^ (8 * i) % 256] := by
  have hz : (strOfNums [n / 2 ^ (8 * i) % 256]).size = 1 := by rw [strOfNums_size]; rfl
  refine bytes_ext (by rw [ByteArray.size_append, beS_size, beS_size, hz]; omega) (fun j hj => ?_)
  rw [beS_size] at hj
  rw [bt_beS _ _ _ hj]
  by_cases c : j < b - (i + 1)
  · rw [bt_left _ _ _ (by rw [beS_size]; exact c), bt_beS _ _ _ c, Int.ediv_ediv_of_nonneg (Int.le_of_lt (Int.pow_pos (by decide))), Int.ediv_ediv_of_nonneg (Int.le_of_lt (Int.pow_pos (by decide))), ← Int.pow_add, ← Int.pow_add, show 8 * i + 8 * (b - i - 1 - j) = 8 * (i + 1) + 8 * (b - (i + 1) - 1 - j) by omega]
  · have e : j = (beS (n / 2 ^ (8 * (i + 1))) (b - (i + 1))).size + 0 := by rw [beS_size]; omega
    rw [show (j : Int) = (((beS (n / 2 ^ (8 * (i + 1))) (b - (i + 1))).size + 0 : Nat) : Int) by rw [← e], bt_right _ _ _ (by rw [hz]; omega), bt_nums _ _ (by exact Nat.zero_lt_one) (by show 0 ≤ n / 2 ^ (8 * i) % 256; omega) (by show n / 2 ^ (8 * i) % 256 < 256; omega), show 8 * (b - i - 1 - j) = 0 by omega]
    simp
theorem beS_zero (n : Int) : beS n 0 = ⟨#[]⟩ := rfl
theorem rput_l0 (n : Int) (b : Nat) (hb : b ≤ 7) (h0 : 0 ≤ n) (hn : n < 72057594037927936) : ∀ (d i : Nat), i + d = b → ∀ acc : ByteArray, acc.size = i → Evt (fun k => rillmeterref04_Put.l0 k (n / 2 ^ (8 * i)) (b : Int) acc (i : Int)) (beS (n / 2 ^ (8 * i)) (b - i) ++ acc, true) := by
  intro d
  induction d with
  | zero =>
    intro i h acc _
    refine Evt.step (Evt.now (f := fun _ => some _) (fun _ => rfl)) (fun k => ?_)
    simp only [rillmeterref04_Put.l0]
    rw [if_neg (by omega), show b - i = 0 by omega, beS_zero, nil_app]
  | succ d ih =>
    intro i h acc ha
    have hz : (strOfNums [n / 2 ^ (8 * i) % 256]).size = 1 := by rw [strOfNums_size]; rfl
    have h1 := ih (i + 1) (by omega) (strOfNums [n / 2 ^ (8 * i) % 256] ++ acc) (by rw [ByteArray.size_append, hz]; omega)
    rw [beS_step n b i (by omega) h0, ByteArray.append_assoc]
    have hq : 0 ≤ n / 2 ^ (8 * i) ∧ n / 2 ^ (8 * i) ≤ n := ⟨Int.ediv_nonneg h0 (Int.le_of_lt (Int.pow_pos (by decide))), Int.ediv_le_self _ h0⟩
    have e1 : Int.tmod (n / 2 ^ (8 * i)) 256 % 256 = n / 2 ^ (8 * i) % 256 := by rw [Int.tmod_eq_emod_of_nonneg hq.1]; omega
    have e2 : wrap64 (Int.tdiv (n / 2 ^ (8 * i)) 256) = n / 2 ^ (8 * (i + 1)) := by
      rw [Int.tdiv_eq_ediv_of_nonneg hq.1, i64_in _ (by omega) (by omega), show 8 * (i + 1) = 8 * i + 8 by omega, Int.pow_add, ← Int.ediv_ediv_of_nonneg (Int.le_of_lt (Int.pow_pos (by decide)))]
      rfl
    refine Evt.step h1 (fun k => ?_)
    simp only [rillmeterref04_Put.l0]
    rw [if_pos (by omega)]
    simp only [Option.bind_some]
    rw [e1, e2, if_pos (by rw [hz]; omega), i64_in ((i : Int) + 1) (by omega) (by omega), show (i : Int) + 1 = ((i + 1 : Nat) : Int) by omega]
theorem rput_spec (n : Int) (b : Nat) (h1 : 1 ≤ b) (h7 : b ≤ 7) (h0 : 0 ≤ n) (hn : n < 2 ^ (8 * b)) : Evt (fun k => rillmeterref04_Put.f k n (b : Int)) (beS n b, true) := by
  have h2 : (2 : Int) ^ (8 * b) ≤ 2 ^ 56 := by
    have := Nat.pow_le_pow_right (show 0 < 2 by decide) (show 8 * b ≤ 56 by omega)
    exact_mod_cast this
  have h3 : (2 : Int) ^ 56 = 72057594037927936 := by decide
  have hA := rput_l0 n b h7 h0 (by omega) b 0 (by omega) ⟨#[]⟩ rfl
  rw [show n / 2 ^ (8 * 0) = n by simp, Nat.sub_zero, app_nil] at hA
  have hj : Evt (fun k => rillmeterref04_Put.j0 k n (b : Int) false) (beS n b, true) := by
    refine Evt.step hA (fun k => ?_)
    simp only [rillmeterref04_Put.j0]
    rw [if_neg (by decide)]; rfl
  refine (Evt.bind (rpower_spec b h7) (g := fun k t297 => rillmeterref04_Put.j0 k n (b : Int) (decide (n ≥ t297))) (hj.eq fun k => by rw [decide_eq_false (by omega)])).eq (fun k => ?_)
  simp only [rillmeterref04_Put.f]
  rw [if_neg (by omega), if_neg (by omega), if_neg (by omega)]

theorem rnum22_spec (n : Int) (b : Nat) (h1 : 1 ≤ b) (h7 : b ≤ 7) (h0 : 0 ≤ n) (hn : n < 2 ^ (8 * b)) : Evt (fun k => rillmeterref22_num.f k n (b : Int)) (beS n b) :=
  (Evt.bind (rput_spec n b h1 h7 h0 hn) (g := fun _ (bt : ByteArray × Bool) => some bt.1) (Evt.now fun _ => rfl)).eq (fun k => rfl)
theorem rn1_spec (n : Int) (h0 : 0 ≤ n) (hn : n < 256) : Evt (fun k => rillmeterref22_num.f k n 1) (beS n 1) := rnum22_spec n 1 (by decide) (by decide) h0 (by simpa using hn)
theorem rn2_spec (n : Int) (h0 : 0 ≤ n) (hn : n < 65536) : Evt (fun k => rillmeterref22_num.f k n 2) (beS n 2) := rnum22_spec n 2 (by decide) (by decide) h0 (by simpa using hn)
theorem rn4_spec (n : Int) (h0 : 0 ≤ n) (hn : n < 4294967296) : Evt (fun k => rillmeterref22_num.f k n 4) (beS n 4) := rnum22_spec n 4 (by decide) (by decide) h0 (by simpa using hn)

/-- so many bytes, the rest, and how it went -/
def cutP (s : ByteArray) (n : Int) : ByteArray × ByteArray × Int :=
  if n < 0 then (⟨#[]⟩, ⟨#[]⟩, 1) else if (s.size : Int) < n then (⟨#[]⟩, ⟨#[]⟩, 2) else (s.extract 0 n.toNat, s.extract n.toNat s.size, 0)
theorem cut_spec (s : ByteArray) (n : Int) : octet_Cut.f s n = some (cutP s n) := by
  unfold octet_Cut.f cutP
  by_cases h : n < 0
  · rw [if_pos h, if_pos h]
  · rw [if_neg h, if_neg h]
    by_cases g : (s.size : Int) < n
    · rw [if_pos g, if_pos g]
    · rw [if_neg g, if_neg g, if_pos (by omega), if_pos (by omega)]
theorem cutP_ok {s : ByteArray} {n : Int} (h : (cutP s n).2.2 = 0) : 0 ≤ n ∧ n ≤ s.size ∧ cutP s n = (s.extract 0 n.toNat, s.extract n.toNat s.size, 0) := by
  unfold cutP at h ⊢
  by_cases c : n < 0
  · rw [if_pos c] at h; exact absurd h (by decide)
  · rw [if_neg c] at h ⊢
    by_cases g : (s.size : Int) < n
    · rw [if_pos g] at h; exact absurd h (by decide)
    · rw [if_neg g]; exact ⟨by omega, by omega, rfl⟩
theorem cutP_more {s : ByteArray} {n : Int} (b : ByteArray) (h : (cutP s n).2.2 = 0) : cutP (s ++ b) n = ((cutP s n).1, (cutP s n).2.1 ++ b, 0) := by
  obtain ⟨h0, h1, e⟩ := cutP_ok h
  rw [e]
  unfold cutP
  rw [if_neg (by omega), if_neg (by rw [ByteArray.size_append]; omega)]
  refine Prod.ext ?_ (Prod.ext ?_ rfl)
  · show (s ++ b).extract 0 n.toNat = s.extract 0 n.toNat
    rw [ByteArray.extract_append, show n.toNat - s.size = 0 by omega, show 0 - s.size = 0 by omega]
    apply ByteArray.ext
    simp
  · show (s ++ b).extract n.toNat (s ++ b).size = s.extract n.toNat s.size ++ b
    rw [ByteArray.extract_append, ByteArray.size_append, show n.toNat - s.size = 0 by omega, show s.size + b.size - s.size = b.size by omega]
    congr 1
    · apply ByteArray.ext
      rw [ByteArray.data_extract, ByteArray.data_extract]
      apply Array.ext_getElem?
      intro i
      simp only [Array.getElem?_extract, ByteArray.size_data]
      by_cases c : i < s.size - n.toNat
      · rw [if_pos (by omega), if_pos (by omega)]
      · rw [if_neg (by omega), if_neg (by omega)]
    · apply ByteArray.ext
      simp
theorem cutP_le (s : ByteArray) (n : Int) : (cutP s n).2.1.size ≤ s.size := by
  unfold cutP
  by_cases c : n < 0
  · rw [if_pos c]; exact Nat.zero_le _
  · rw [if_neg c]
    by_cases g : (s.size : Int) < n
    · rw [if_pos g]; exact Nat.zero_le _
    · rw [if_neg g]
      show (s.extract n.toNat s.size).size ≤ s.size
      rw [ByteArray.size_extract]; omega

theorem cutP_eq (s : ByteArray) (n : Int) : cutP s n = if 0 ≤ n ∧ n ≤ s.size then (s.extract 0 n.toNat, s.extract n.toNat s.size, 0) else (⟨#[]⟩, ⟨#[]⟩, if n < 0 then 1 else 2) := by
  unfold cutP
  by_cases c : n < 0
  · rw [if_pos c, if_neg (by omega), if_pos c]
  · rw [if_neg c]
    by_cases g : (s.size : Int) < n
    · rw [if_pos g, if_neg (by omega), if_neg c]
    · rw [if_neg g, if_pos (by omega)]

/-- the number that bytes are, from a place on -/
def numA (x : ByteArray) : Nat → Int → Nat → Int
  | 0, acc, _ => acc
  | d + 1, acc, i => numA x d (Go.bits .or .i64 (wrap64 (acc * 256)) (wrap64 (bt x (i : Int)))) (i + 1)
/-- the number at the beginning, the rest, and how it went -/
def takeP (s : ByteArray) (n : Nat) : Int × ByteArray × Int :=
  if (cutP s n).2.2 = 0 then (numA (cutP s n).1 (cutP s n).1.size 0 0, (cutP s n).2.1, 0) else (0, ⟨#[]⟩, (cutP s n).2.2)
theorem take_l0 (x y : ByteArray) (hx : x.size ≤ 1000000) : ∀ (d i : Nat) (acc : Int), i + d = x.size → Evt (fun k => octet_Take.l0 k x y acc (x.size : Int) (i : Int)) (numA x d acc i, y, 0) := by
  intro d
  induction d with
  | zero =>
    intro i acc h
    refine Evt.step (Evt.now (f := fun _ => some (acc, y, (0 : Int))) (fun _ => rfl)) (fun k => ?_)
    simp only [octet_Take.l0]
    rw [if_neg (by omega)]
  | succ d ih =>
    intro i acc h
    refine Evt.step (ih (i + 1) _ (by omega)) (fun k => ?_)
    simp only [octet_Take.l0]
    rw [if_pos (by omega), if_pos (by omega), if_pos (by omega), i64_in ((i : Int) + 1) (by omega) (by omega), show (i : Int) + 1 = ((i + 1 : Nat) : Int) by omega]
theorem take_spec (s : ByteArray) (n : Nat) (h1 : 1 ≤ n) (h7 : n ≤ 7) : Evt (fun k => octet_Take.f k s (n : Int)) (takeP s n) := by
  have hj : Evt (fun k => octet_Take.j0 k s (n : Int) false) (takeP s n) := by
    unfold takeP
    by_cases h : (cutP s n).2.2 = 0
    · rw [if_pos h]
      have hz : (cutP s n).1.size ≤ 1000000 := by
        obtain ⟨a, b, e⟩ := cutP_ok h
        rw [e]
        show (s.extract 0 _).size ≤ _
        rw [ByteArray.size_extract]; omega
      refine Evt.step (take_l0 (cutP s n).1 (cutP s n).2.1 hz _ 0 0 (by omega)) (fun k => ?_)
      simp only [octet_Take.j0]
      rw [if_neg (by decide), cut_spec, Option.bind_some, if_pos h]
      rfl
    · rw [if_neg h]
      refine Evt.step (Evt.now (f := fun _ => some ((0 : Int), (⟨#[]⟩ : ByteArray), (cutP s n).2.2)) (fun _ => rfl)) (fun k => ?_)
      simp only [octet_Take.j0]
      rw [if_neg (by decide), cut_spec, Option.bind_some, if_neg h]
  refine hj.eq (fun k => ?_)
  unfold octet_Take.f
  rw [if_neg (by omega), decide_eq_false (by omega)]
theorem takeP_more {s : ByteArray} {n : Nat} (b : ByteArray) (h : (takeP s n).2.2 = 0) : takeP (s ++ b) n = ((takeP s n).1, (takeP s n).2.1 ++ b, 0) := by
  unfold takeP at h ⊢
  by_cases c : (cutP s n).2.2 = 0
  · rw [if_pos c, cutP_more b c, if_pos rfl]
  · rw [if_neg c] at h; exact absurd h c
theorem takeP_le (s : ByteArray) (n : Nat) : (takeP s n).2.1.size ≤ s.size := by
  unfold takeP
  by_cases c : (cutP s n).2.2 = 0
  · rw [if_pos c]; exact cutP_le s n
  · rw [if_neg c]; exact Nat.zero_le _

theorem numA_pre (x : ByteArray) : ∀ (d i : Nat), i + d ≤ 7 → numA x d (pre x i) i = pre x (i + d) := by
  intro d
  induction d with
  | zero => intro i _; rfl
  | succ d ih =>
    intro i h
    have hb := bt_range x (i : Int)
    have hp := pre_range x i
    have h2 : (2 : Int) ^ (8 * i) ≤ 2 ^ 48 := by
      have := Nat.pow_le_pow_right (show 0 < 2 by decide) (show 8 * i ≤ 48 by omega)
      exact_mod_cast this
    have h3 : (2 : Int) ^ 48 = 281474976710656 := by decide
    have e : Go.bits .or .i64 (wrap64 (pre x i * 256)) (wrap64 (bt x (i : Int))) = pre x (i + 1) := by
      rw [i64_in (pre x i * 256) (by omega) (by omega), i64_in (bt x (i : Int)) (by omega) (by omega), pre]
      rw [bits_join .i64 63 (by decide) (fun n h0 h1 => by rw [i64_w, i64_in n (by omega) (by omega)]) 8 (pre x i * 256) (bt x (i : Int)) (by omega) (by omega) (by omega) (by omega) (by omega) (by omega)]
      omega
    rw [numA, e, ih (i + 1) (by omega)]
    congr 1; omega
theorem takeP_eq (s : ByteArray) (n : Nat) (h7 : n ≤ 7) : takeP s n = if n ≤ s.size then (pre s n, s.extract n s.size, 0) else (0, ⟨#[]⟩, 2) := by
  unfold takeP
  by_cases c : n ≤ s.size
  · have e : cutP s (n : Int) = (s.extract 0 n, s.extract n s.size, 0) := by rw [cutP_eq, if_pos (by omega), Int.toNat_natCast]
    rw [e, if_pos c, if_pos rfl]
    refine Prod.ext ?_ rfl
    have hz : (s.extract 0 n).size = n := by rw [ByteArray.size_extract]; omega
    show numA (s.extract 0 n) (s.extract 0 n).size 0 0 = pre s n
    rw [hz, show (0 : Int) = pre (s.extract 0 n) 0 from rfl, numA_pre _ _ _ (by omega), Nat.zero_add]
    exact pre_congr _ _ _ (fun j hj => by rw [bt_extract _ _ _ _ (by omega) c, Nat.zero_add])
  · have e : cutP s (n : Int) = (⟨#[]⟩, ⟨#[]⟩, 2) := by rw [cutP_eq, if_neg (by omega), if_neg (by omega)]
    rw [e, if_neg c, if_neg (by decide)]

/-- a number taken off -/
def rnumP (s : ByteArray) (bad : Bool) (n : Nat) : Int × ByteArray × Bool := if (takeP s n).2.2 = 0 then ((takeP s n).1, (takeP s n).2.1, bad) else (0, ⟨#[]⟩, true)
theorem rnum_spec (s : ByteArray) (bad : Bool) (n : Nat) (h1 : 1 ≤ n) (h7 : n ≤ 7) : ∃ m, ∀ k, m ≤ k → ipfix_reader_num.f k s bad (n : Int) = some (rnumP s bad n) := by
  obtain ⟨m, h⟩ := take_spec s n h1 h7
  refine ⟨m, fun k hk => ?_⟩
  have h2 := h k hk
  simp only at h2
  unfold ipfix_reader_num.f rnumP
  rw [h2, Option.bind_some]
  by_cases c : (takeP s n).2.2 = 0
  · rw [if_pos c, if_pos c]
  · rw [if_neg c, if_neg c]
theorem rnumP_bad (s : ByteArray) (n : Nat) : (rnumP s true n).2.2 = true := by
  unfold rnumP
  split <;> rfl
theorem rnumP_le (s : ByteArray) (bad : Bool) (n : Nat) : (rnumP s bad n).2.1.size ≤ s.size := by
  unfold rnumP
  split
  · exact takeP_le s n
  · exact Nat.zero_le _
theorem rnumP_more {s : ByteArray} {n : Nat} (b : ByteArray) (h : (rnumP s false n).2.2 = false) : rnumP (s ++ b) false n = ((rnumP s false n).1, (rnumP s false n).2.1 ++ b, false) := by
  unfold rnumP at h ⊢
  by_cases c : (takeP s n).2.2 = 0
  · rw [if_pos c, takeP_more b c, if_pos rfl]
  · rw [if_neg c] at h; cases h

theorem rnumP_eq (s : ByteArray) (bad : Bool) (n : Nat) (h7 : n ≤ 7) : rnumP s bad n = if n ≤ s.size then (pre s n, s.extract n s.size, bad) else (0, ⟨#[]⟩, true) := by
  unfold rnumP
  rw [takeP_eq s n h7]
  by_cases c : n ≤ s.size
  · rw [if_pos c, if_pos rfl, if_pos c]
  · rw [if_neg c, if_neg (by decide), if_neg c]
theorem rnumP_app (v : Int) (n : Nat) (y : ByteArray) (bad : Bool) (h7 : n ≤ 7) (h0 : 0 ≤ v) (h1 : v < 2 ^ (8 * n)) : rnumP (beS v n ++ y) bad n = (v, y, bad) := by
  rw [rnumP_eq _ _ _ h7, if_pos (by rw [ByteArray.size_append, beS_size]; omega), pre_app v n y h0 h1, ex_app_right' _ _ _ (beS_size v n)]
theorem rnumP_suf (x : ByteArray) (a : Nat) (bad : Bool) (n : Nat) (h7 : n ≤ 7) (h : a + n ≤ x.size) : rnumP (suf x a) bad n = (pre (suf x a) n, suf x (a + n), bad) := by
  rw [rnumP_eq _ _ _ h7, if_pos (by rw [suf_size]; omega), suf_suf x a n h]
theorem rnumP_suf' (x : ByteArray) (a : Nat) (bad : Bool) (n : Nat) (h7 : n ≤ 7) (h0 : 1 ≤ n) (h : ¬ a + n ≤ x.size) : rnumP (suf x a) bad n = (0, ⟨#[]⟩, true) := by
  rw [rnumP_eq _ _ _ h7, if_neg (by rw [suf_size]; omega)]

/-- a text taken off -/
def rtextP (s : ByteArray) (bad : Bool) (n : Int) : ByteArray × ByteArray × Bool := if (cutP s n).2.2 = 0 then ((cutP s n).1, (cutP s n).2.1, bad) else (⟨#[]⟩, ⟨#[]⟩, true)
theorem rtext_spec (s : ByteArray) (bad : Bool) (n : Int) : ipfix_reader_text.f s bad n = some (rtextP s bad n) := by
  unfold ipfix_reader_text.f rtextP
  rw [cut_spec, Option.bind_some]
  by_cases c : (cutP s n).2.2 = 0
  · rw [if_pos c, if_pos c]
  · rw [if_neg c, if_neg c]
theorem rtextP_bad (s : ByteArray) (n : Int) : (rtextP s true n).2.2 = true := by
  unfold rtextP
  split <;> rfl
theorem rtextP_le (s : ByteArray) (bad : Bool) (n : Int) : (rtextP s bad n).2.1.size ≤ s.size := by
  unfold rtextP
  split
  · exact cutP_le s n
  · exact Nat.zero_le _
theorem rtextP_more {s : ByteArray} {n : Int} (b : ByteArray) (h : (rtextP s false n).2.2 = false) : rtextP (s ++ b) false n = ((rtextP s false n).1, (rtextP s false n).2.1 ++ b, false) := by
  unfold rtextP at h ⊢
  by_cases c : (cutP s n).2.2 = 0
  · rw [if_pos c, cutP_more b c, if_pos rfl]
  · rw [if_neg c] at h; cases h

theorem rtextP_eq (s : ByteArray) (bad : Bool) (n : Int) : rtextP s bad n = if 0 ≤ n ∧ n ≤ s.size then (s.extract 0 n.toNat, s.extract n.toNat s.size, bad) else (⟨#[]⟩, ⟨#[]⟩, true) := by
  unfold rtextP
  rw [cutP_eq]
  by_cases c : 0 ≤ n ∧ n ≤ s.size
  · rw [if_pos c, if_pos c]; rfl
  · rw [if_neg c, if_neg c]
    refine if_neg ?_
    show ¬ ((if n < 0 then (1 : Int) else 2) = 0)
    split <;> decide
theorem rtextP_app (v y : ByteArray) (bad : Bool) (n : Int) (h : n = v.size) : rtextP (v ++ y) bad n = (v, y, bad) := by
  subst h
  rw [rtextP_eq, if_pos (by rw [ByteArray.size_append]; omega), Int.toNat_natCast, ex_app_left, ex_app_right]
theorem rtextP_suf (x : ByteArray) (a : Nat) (bad : Bool) (n : Int) (h0 : 0 ≤ n) (h : a + n ≤ x.size) : rtextP (suf x a) bad n = (x.extract a (a + n.toNat), suf x (a + n.toNat), bad) := by
  rw [rtextP_eq, if_pos (by rw [suf_size]; omega), suf_ex x a 0 n.toNat (by omega) (by omega), suf_suf x a n.toNat (by omega)]; rfl
theorem rtextP_suf' (x : ByteArray) (a : Nat) (bad : Bool) (n : Int) (ha : a ≤ x.size) (h : ¬ (0 ≤ n ∧ a + n ≤ x.size)) : rtextP (suf x a) bad n = (⟨#[]⟩, ⟨#[]⟩, true) := by
  rw [rtextP_eq, if_neg (by rw [suf_size]; omega)]

/-- so many fields from a place on, and the place behind; none: they are not there, or have an enterprise 0 -/
def fieldsAt (x : ByteArray) : Nat → Nat → List S82 → Option (List S82 × Nat)
  | 0, a, acc => some (acc, a)
  | n + 1, a, acc =>
    if a + 4 ≤ x.size then
      (if 32768 ≤ pre (suf x a) 2 then
        (if a + 8 ≤ x.size then (if pre (suf x (a + 4)) 4 = 0 then none else fieldsAt x n (a + 8) (acc ++ [⟨pre (suf x a) 2 - 32768, pre (suf x (a + 2)) 2, pre (suf x (a + 4)) 4⟩])) else none)
       else fieldsAt x n (a + 4) (acc ++ [⟨pre (suf x a) 2, pre (suf x (a + 2)) 2, 0⟩]))
    else none
/-- templates up to the end; none: there are none -/
def tempsAt (x : ByteArray) : Nat → Nat → List S37 → Option (List S37)
  | 0, _, _ => none
  | m + 1, a, acc =>
    if a < x.size then
      (if a + 4 ≤ x.size then
        (match fieldsAt x (pre (suf x (a + 2)) 2).toNat (a + 4) [] with
         | some (fs, b) => tempsAt x m b (acc ++ [⟨pre (suf x a) 2, fs⟩])
         | none => none)
       else none)
    else some acc
theorem fieldsAt_le (x : ByteArray) : ∀ (n a : Nat) (acc : List S82) (fs : List S82) (b : Nat), a ≤ x.size → fieldsAt x n a acc = some (fs, b) → a ≤ b ∧ b ≤ x.size ∧ fs.length = acc.length + n ∧ 4 * n ≤ b - a := by
  intro n
  induction n with
  | zero => intro a acc fs b ha h; simp only [fieldsAt, Option.some.injEq, Prod.mk.injEq] at h; obtain ⟨rfl, rfl⟩ := h; exact ⟨Nat.le_refl _, ha, rfl, by omega⟩
  | succ n ih =>
    intro a acc fs b ha h
    rw [fieldsAt] at h
    by_cases c : a + 4 ≤ x.size
    · rw [if_pos c] at h
      by_cases d : 32768 ≤ pre (suf x a) 2
      · rw [if_pos d] at h
        by_cases e : a + 8 ≤ x.size
        · rw [if_pos e] at h
          by_cases z : pre (suf x (a + 4)) 4 = 0
          · rw [if_pos z] at h; cases h
          · rw [if_neg z] at h
            have := ih (a + 8) _ fs b e h
            rw [List.length_append, List.length_singleton] at this
            omega
        · rw [if_neg e] at h; cases h
      · rw [if_neg d] at h
        have := ih (a + 4) _ fs b c h
        rw [List.length_append, List.length_singleton] at this
        omega
    · rw [if_neg c] at h; cases h

/-- a reader of templates that is bad ends so -/
theorem set_bad (r : ByteArray) (rb : Bool) (id : Int) (ts : List S37) (hts : ts.length < 4398046511104) (data s : ByteArray) (n i tid : Int) (tf : List S82) :
    ∃ q, Evt (fun k => ipfix_reader_set.l1 k n i r rb id ts data s true tid tf) q ∧ q.2.2.2.1 = r ∧ q.2.2.2.2 = true := by
  have h1 : Evt (fun k => ipfix_reader_set.j1 k false r rb id (ts ++ [⟨tid, tf⟩]) data s true) (id, ts ++ [⟨tid, tf⟩], data, r, true) := by
    refine Evt.step (Evt.now (f := fun _ => some _) (fun _ => rfl)) (fun k => ?_)
    simp only [ipfix_reader_set.j1]
    rw [if_neg (by decide)]
    cases rb <;> rfl
  have h0 : Evt (fun k => ipfix_reader_set.l0 k r rb id (ts ++ [⟨tid, tf⟩]) data s true) (id, ts ++ [⟨tid, tf⟩], data, r, true) := by
    refine Evt.step h1 (fun k => ?_)
    simp only [ipfix_reader_set.l0, Bool.not_true]
    split <;> rfl
  refine ⟨_, Evt.step h0 (fun k => ?_), rfl, rfl⟩
  simp only [ipfix_reader_set.l1]
  by_cases c : i < n
  · rw [if_pos c, if_pos trivial, if_pos hts]
  · rw [if_neg c, if_pos hts]
/-- one field, where its numbers are there -/
theorem set_field (k : Nat) (r : ByteArray) (rb : Bool) (id : Int) (ts : List S37) (data s : ByteArray) (n i tid : Int) (tf : List S82) (h : i < n) (ht : tf.length < 5864062014805) (x y z : Int × ByteArray × Bool)
    (h1 : ipfix_reader_num.f k s false 2 = some x) (h2 : ipfix_reader_num.f k x.2.1 x.2.2 2 = some y) (h3 : ipfix_reader_num.f k y.2.1 y.2.2 4 = some z) :
    ipfix_reader_set.l1 (k + 1) n i r rb id ts data s false tid tf = (if x.1 ≥ 32768 then (if z.2.2 = true then ipfix_reader_set.l1 k n (wrap64 (i + 1)) r rb id ts data z.2.1 true tid (tf ++ [⟨wrap64 (x.1 - 32768), y.1, z.1⟩]) else ipfix_reader_set.l1 k n (wrap64 (i + 1)) r rb id ts data z.2.1 (z.1 == 0) tid (tf ++ [⟨wrap64 (x.1 - 32768), y.1, z.1⟩]))
      else ipfix_reader_set.l1 k n (wrap64 (i + 1)) r rb id ts data y.2.1 y.2.2 tid (tf ++ [⟨x.1, y.1, 0⟩])) := by
  simp only [ipfix_reader_set.l1]
  rw [if_pos h, if_neg (by decide), h1, Option.bind_some, h2, Option.bind_some]
  by_cases c : x.1 ≥ 32768
  · rw [if_pos c, if_pos c, h3, Option.bind_some, if_pos ht, if_pos ht]
  · rw [if_neg c, if_neg c, if_pos ht]
theorem rnum3 (s : ByteArray) : ∃ m, ∀ k, m ≤ k → ipfix_reader_num.f k s false 2 = some (rnumP s false 2) ∧ ipfix_reader_num.f k (rnumP s false 2).2.1 (rnumP s false 2).2.2 2 = some (rnumP (rnumP s false 2).2.1 (rnumP s false 2).2.2 2) ∧
    ipfix_reader_num.f k (rnumP (rnumP s false 2).2.1 (rnumP s false 2).2.2 2).2.1 (rnumP (rnumP s false 2).2.1 (rnumP s false 2).2.2 2).2.2 4 = some (rnumP (rnumP (rnumP s false 2).2.1 (rnumP s false 2).2.2 2).2.1 (rnumP (rnumP s false 2).2.1 (rnumP s false 2).2.2 2).2.2 4) := by
  obtain ⟨m1, e1⟩ := rnum_spec s false 2 (by decide) (by decide)
  obtain ⟨m2, e2⟩ := rnum_spec (rnumP s false 2).2.1 (rnumP s false 2).2.2 2 (by decide) (by decide)
  obtain ⟨m3, e3⟩ := rnum_spec (rnumP (rnumP s false 2).2.1 (rnumP s false 2).2.2 2).2.1 (rnumP (rnumP s false 2).2.1 (rnumP s false 2).2.2 2).2.2 4 (by decide) (by decide)
  exact ⟨m1 + m2 + m3, fun k hk => ⟨e1 k (by omega), e2 k (by omega), e3 k (by omega)⟩⟩
/-- two numbers of two bytes, one behind the other -/
theorem rnum22_ok (x : ByteArray) (a : Nat) (h : a + 4 ≤ x.size) : rnumP (suf x a) false 2 = (pre (suf x a) 2, suf x (a + 2), false) ∧ rnumP (suf x (a + 2)) false 2 = (pre (suf x (a + 2)) 2, suf x (a + 4), false) :=
  ⟨rnumP_suf x a false 2 (by decide) (by omega), rnumP_suf x (a + 2) false 2 (by decide) (by omega)⟩
theorem rnum22_bad (x : ByteArray) (a : Nat) (h : ¬ a + 4 ≤ x.size) : (rnumP (rnumP (suf x a) false 2).2.1 (rnumP (suf x a) false 2).2.2 2).2.2 = true := by
  by_cases c : a + 2 ≤ x.size
  · rw [rnumP_suf x a false 2 (by decide) c]
    simp only
    rw [rnumP_suf' x (a + 2) false 2 (by decide) (by decide) (by omega)]
  · rw [rnumP_suf' x a false 2 (by decide) (by decide) c]
    exact rnumP_bad _ _

theorem set_fields_none (x : ByteArray) (r : ByteArray) (rb : Bool) (id : Int) (ts : List S37) (hts : ts.length < 4398046511104) (data : ByteArray) (n : Nat) (hn : n ≤ 65535) (tid : Int) :
    ∀ (d i a : Nat) (tf : List S82), i + d = n → tf.length ≤ i → fieldsAt x d a tf = none →
      ∃ q, Evt (fun k => ipfix_reader_set.l1 k (n : Int) (i : Int) r rb id ts data (suf x a) false tid tf) q ∧ q.2.2.2.1 = r ∧ q.2.2.2.2 = true := by
  intro d
  induction d with
  | zero => intro i a tf _ _ h; cases h
  | succ d ih =>
    intro i a tf hi htf h
    rw [fieldsAt] at h
    obtain ⟨m, e⟩ := rnum3 (suf x a)
    have ei : ∀ _ : Unit, wrap64 ((i : Int) + 1) = ((i + 1 : Nat) : Int) := by intro _; rw [i64_in ((i : Int) + 1) (by omega) (by omega)]; omega
    have hlt : (i : Int) < (n : Int) := by omega
    have hlen : tf.length < 5864062014805 := by omega
    have step : ∀ (g : Nat → Option (Int × (List (S37)) × ByteArray × ByteArray × Bool)), (∀ k, m ≤ k → ipfix_reader_set.l1 (k + 1) (n : Int) (i : Int) r rb id ts data (suf x a) false tid tf = g k) →
        (∃ q, Evt g q ∧ q.2.2.2.1 = r ∧ q.2.2.2.2 = true) → ∃ q, Evt (fun k => ipfix_reader_set.l1 k (n : Int) (i : Int) r rb id ts data (suf x a) false tid tf) q ∧ q.2.2.2.1 = r ∧ q.2.2.2.2 = true := by
      intro g hg ⟨q, ⟨m2, e2⟩, hq⟩
      refine ⟨q, ⟨m + m2 + 1, fun k hk => ?_⟩, hq⟩
      obtain ⟨k, rfl⟩ : ∃ z, k = z + 1 := ⟨k - 1, by omega⟩
      exact (hg k (by omega)).trans (e2 k (by omega))
    by_cases c : a + 4 ≤ x.size
    · rw [if_pos c] at h
      obtain ⟨q1, q2⟩ := rnum22_ok x a c
      have p0 := pre_2 (suf x a)
      rw [q1] at e
      simp only at e
      rw [q2] at e
      simp only at e
      by_cases c2 : 32768 ≤ pre (suf x a) 2
      · rw [if_pos c2] at h
        by_cases c3 : a + 8 ≤ x.size
        · rw [if_pos c3] at h
          rw [rnumP_suf x (a + 4) false 4 (by decide) (by omega)] at e
          refine step _ (fun k hk => (set_field k r rb id ts data (suf x a) n i tid tf hlt hlen _ _ _ (e k hk).1 (e k hk).2.1 (e k hk).2.2).trans ((if_pos c2).trans (if_neg (show ¬ (false = true) by decide)))) ?_
          simp only
          rw [ei ()]
          by_cases z : pre (suf x (a + 4)) 4 = 0
          · rw [show (pre (suf x (a + 4)) 4 == 0) = true from beq_iff_eq.2 z]
            exact set_bad r rb id ts hts data _ n _ tid _
          · rw [if_neg z] at h
            rw [show (pre (suf x (a + 4)) 4 == 0) = false from beq_eq_false_iff_ne.2 z, i64_in (pre (suf x a) 2 - 32768) (by omega) (by omega)]
            exact ih (i + 1) (a + 8) _ (by omega) (by simp; omega) h
        · rw [rnumP_suf' x (a + 4) false 4 (by decide) (by decide) (by omega)] at e
          refine step _ (fun k hk => (set_field k r rb id ts data (suf x a) n i tid tf hlt hlen _ _ _ (e k hk).1 (e k hk).2.1 (e k hk).2.2).trans ((if_pos c2).trans (if_pos rfl))) ?_
          exact set_bad r rb id ts hts data _ n _ tid _
      · rw [if_neg c2] at h
        refine step _ (fun k hk => (set_field k r rb id ts data (suf x a) n i tid tf hlt hlen _ _ _ (e k hk).1 (e k hk).2.1 (e k hk).2.2).trans (if_neg c2)) ?_
        simp only
        rw [ei ()]
        exact ih (i + 1) (a + 4) _ (by omega) (by simp; omega) h
    · have hb := rnum22_bad x a c
      have hb2 : (rnumP (rnumP (rnumP (suf x a) false 2).2.1 (rnumP (suf x a) false 2).2.2 2).2.1 (rnumP (rnumP (suf x a) false 2).2.1 (rnumP (suf x a) false 2).2.2 2).2.2 4).2.2 = true := by rw [hb]; exact rnumP_bad _ _
      by_cases c2 : (rnumP (suf x a) false 2).1 ≥ 32768
      · refine step _ (fun k hk => (set_field k r rb id ts data (suf x a) n i tid tf hlt hlen _ _ _ (e k hk).1 (e k hk).2.1 (e k hk).2.2).trans ((if_pos c2).trans (if_pos hb2))) ?_
        exact set_bad r rb id ts hts data _ n _ tid _
      · refine step _ (fun k hk => (set_field k r rb id ts data (suf x a) n i tid tf hlt hlen _ _ _ (e k hk).1 (e k hk).2.1 (e k hk).2.2).trans (if_neg c2)) ?_
        rw [hb]
        exact set_bad r rb id ts hts data _ n _ tid _
theorem set_fields_some (x : ByteArray) (r : ByteArray) (rb : Bool) (id : Int) (ts : List S37) (hts : ts.length < 4398046511104) (data : ByteArray) (n : Nat) (hn : n ≤ 65535) (tid : Int) {R : Int × (List (S37)) × ByteArray × ByteArray × Bool} :
    ∀ (d i a : Nat) (tf fs : List S82) (b : Nat), i + d = n → tf.length ≤ i → fieldsAt x d a tf = some (fs, b) → Evt (fun k => ipfix_reader_set.l0 k r rb id (ts ++ [⟨tid, fs⟩]) data (suf x b) false) R →
      Evt (fun k => ipfix_reader_set.l1 k (n : Int) (i : Int) r rb id ts data (suf x a) false tid tf) R := by
  intro d
  induction d with
  | zero =>
    intro i a tf fs b hi _ h hR
    simp only [fieldsAt, Option.some.injEq, Prod.mk.injEq] at h
    obtain ⟨rfl, rfl⟩ := h
    refine Evt.step hR (fun k => ?_)
    simp only [ipfix_reader_set.l1]
    rw [if_neg (by omega), if_pos hts]
  | succ d ih =>
    intro i a tf fs b hi htf h hR
    rw [fieldsAt] at h
    obtain ⟨m, e⟩ := rnum3 (suf x a)
    have ei : ∀ _ : Unit, wrap64 ((i : Int) + 1) = ((i + 1 : Nat) : Int) := by intro _; rw [i64_in ((i : Int) + 1) (by omega) (by omega)]; omega
    have hlt : (i : Int) < (n : Int) := by omega
    have hlen : tf.length < 5864062014805 := by omega
    have step : ∀ (g : Nat → Option (Int × (List (S37)) × ByteArray × ByteArray × Bool)), (∀ k, m ≤ k → ipfix_reader_set.l1 (k + 1) (n : Int) (i : Int) r rb id ts data (suf x a) false tid tf = g k) →
        Evt g R → Evt (fun k => ipfix_reader_set.l1 k (n : Int) (i : Int) r rb id ts data (suf x a) false tid tf) R := by
      intro g hg ⟨m2, e2⟩
      refine ⟨m + m2 + 1, fun k hk => ?_⟩
      obtain ⟨k, rfl⟩ : ∃ z, k = z + 1 := ⟨k - 1, by omega⟩
      exact (hg k (by omega)).trans (e2 k (by omega))
    by_cases c : a + 4 ≤ x.size
    · rw [if_pos c] at h
      obtain ⟨q1, q2⟩ := rnum22_ok x a c
      have p0 := pre_2 (suf x a)
      rw [q1] at e
      simp only at e
      rw [q2] at e
      simp only at e
      by_cases c2 : 32768 ≤ pre (suf x a) 2
      · rw [if_pos c2] at h
        by_cases c3 : a + 8 ≤ x.size
        · rw [if_pos c3] at h
          rw [rnumP_suf x (a + 4) false 4 (by decide) (by omega)] at e
          refine step _ (fun k hk => (set_field k r rb id ts data (suf x a) n i tid tf hlt hlen _ _ _ (e k hk).1 (e k hk).2.1 (e k hk).2.2).trans ((if_pos c2).trans (if_neg (show ¬ (false = true) by decide)))) ?_
          simp only
          rw [ei ()]
          by_cases z : pre (suf x (a + 4)) 4 = 0
          · rw [if_pos z] at h; cases h
          · rw [if_neg z] at h
            rw [show (pre (suf x (a + 4)) 4 == 0) = false from beq_eq_false_iff_ne.2 z, i64_in (pre (suf x a) 2 - 32768) (by omega) (by omega)]
            exact ih (i + 1) (a + 8) _ fs b (by omega) (by simp; omega) h hR
        · rw [if_neg c3] at h; cases h
      · rw [if_neg c2] at h
        refine step _ (fun k hk => (set_field k r rb id ts data (suf x a) n i tid tf hlt hlen _ _ _ (e k hk).1 (e k hk).2.1 (e k hk).2.2).trans (if_neg c2)) ?_
        simp only
        rw [ei ()]
        exact ih (i + 1) (a + 4) _ fs b (by omega) (by simp; omega) h hR
    · rw [if_neg c] at h; cases h
theorem rnum2' (s : ByteArray) (bad : Bool) : ∃ m, ∀ k, m ≤ k → ipfix_reader_num.f k s bad 2 = some (rnumP s bad 2) ∧ ipfix_reader_num.f k (rnumP s bad 2).2.1 (rnumP s bad 2).2.2 2 = some (rnumP (rnumP s bad 2).2.1 (rnumP s bad 2).2.2 2) := by
  obtain ⟨m1, e1⟩ := rnum_spec s bad 2 (by decide) (by decide)
  obtain ⟨m2, e2⟩ := rnum_spec (rnumP s bad 2).2.1 (rnumP s bad 2).2.2 2 (by decide) (by decide)
  exact ⟨m1 + m2, fun k hk => ⟨e1 k (by omega), e2 k (by omega)⟩⟩
theorem set_end (r : ByteArray) (rb : Bool) (id : Int) (ts : List S37) (data s : ByteArray) (bad : Bool) (h : s.size = 0) : Evt (fun k => ipfix_reader_set.l0 k r rb id ts data s bad) (id, ts, data, r, rb || bad) := by
  have h1 : Evt (fun k => ipfix_reader_set.j1 k false r rb id ts data s bad) (id, ts, data, r, rb || bad) := by
    refine Evt.step (Evt.now (f := fun _ => some _) (fun _ => rfl)) (fun k => ?_)
    simp only [ipfix_reader_set.j1]
    rw [if_neg (by decide)]
    cases rb <;> rfl
  refine Evt.step h1 (fun k => ?_)
  simp only [ipfix_reader_set.l0]
  rw [if_pos ((toList_nil_iff s).2 h)]
/-- one template more -/
theorem set_more (x : ByteArray) (a : Nat) (h : a < x.size) (r : ByteArray) (rb : Bool) (id : Int) (ts : List S37) (data : ByteArray) {R : Int × (List (S37)) × ByteArray × ByteArray × Bool}
    (hR : Evt (fun k => ipfix_reader_set.l1 k (rnumP (rnumP (suf x a) false 2).2.1 (rnumP (suf x a) false 2).2.2 2).1 0 r rb id ts data (rnumP (rnumP (suf x a) false 2).2.1 (rnumP (suf x a) false 2).2.2 2).2.1 (rnumP (rnumP (suf x a) false 2).2.1 (rnumP (suf x a) false 2).2.2 2).2.2 (rnumP (suf x a) false 2).1 []) R) :
    Evt (fun k => ipfix_reader_set.l0 k r rb id ts data (suf x a) false) R := by
  obtain ⟨m, e⟩ := rnum2' (suf x a) false
  have h1 : Evt (fun k => ipfix_reader_set.j1 k true r rb id ts data (suf x a) false) R := by
    obtain ⟨m2, e2⟩ := hR
    refine ⟨m + m2 + 1, fun k hk => ?_⟩
    obtain ⟨k, rfl⟩ : ∃ z, k = z + 1 := ⟨k - 1, by omega⟩
    simp only [ipfix_reader_set.j1]
    rw [if_pos trivial, (e k (by omega)).1, Option.bind_some, (e k (by omega)).2, Option.bind_some]
    exact e2 k (by omega)
  refine Evt.step h1 (fun k => ?_)
  simp only [ipfix_reader_set.l0]
  rw [if_neg (by rw [toList_nil_iff, suf_size]; omega)]
  rfl
theorem set_temps_some (x : ByteArray) (hx : x.size ≤ 1000000) (r : ByteArray) (rb : Bool) (id : Int) (data : ByteArray) : ∀ (m a : Nat) (ts ts' : List S37), a ≤ x.size → ts.length ≤ a → tempsAt x m a ts = some ts' →
    Evt (fun k => ipfix_reader_set.l0 k r rb id ts data (suf x a) false) (id, ts', data, r, rb) ∧ ts'.length ≤ x.size := by
  intro m
  induction m with
  | zero => intro a ts ts' _ _ h; cases h
  | succ m ih =>
    intro a ts ts' ha hts h
    rw [tempsAt] at h
    by_cases c : a < x.size
    · rw [if_pos c] at h
      by_cases c2 : a + 4 ≤ x.size
      · rw [if_pos c2] at h
        obtain ⟨q1, q2⟩ := rnum22_ok x a c2
        have p0 := pre_2 (suf x (a + 2))
        have hN : ((pre (suf x (a + 2)) 2).toNat : Int) = pre (suf x (a + 2)) 2 := by omega
        cases e : fieldsAt x (pre (suf x (a + 2)) 2).toNat (a + 4) [] with
        | none => rw [e] at h; cases h
        | some p =>
          obtain ⟨fs, b⟩ := p
          rw [e] at h
          have hb := fieldsAt_le x _ _ _ _ _ c2 e
          obtain ⟨h1, h2⟩ := ih b (ts ++ [⟨pre (suf x a) 2, fs⟩]) ts' hb.2.1 (by simp; omega) h
          refine ⟨set_more x a c r rb id ts data ?_, h2⟩
          rw [q1]
          simp only
          rw [q2]
          simp only
          rw [← hN]
          exact set_fields_some x r rb id ts (by omega) data _ (by omega) _ _ 0 (a + 4) [] fs b (by omega) (Nat.le_refl _) e h1
      · rw [if_neg c2] at h; cases h
    · rw [if_neg c] at h
      simp only [Option.some.injEq] at h
      subst h
      have := set_end r rb id ts data (suf x a) false (by rw [suf_size]; omega)
      rw [Bool.or_false] at this
      exact ⟨this, by omega⟩
theorem set_temps_none (x : ByteArray) (hx : x.size ≤ 1000000) (r : ByteArray) (rb : Bool) (id : Int) (data : ByteArray) : ∀ (m a : Nat) (ts : List S37), x.size - a < m → a ≤ x.size → ts.length ≤ a → tempsAt x m a ts = none →
    ∃ q, Evt (fun k => ipfix_reader_set.l0 k r rb id ts data (suf x a) false) q ∧ q.2.2.2.1 = r ∧ q.2.2.2.2 = true := by
  intro m
  induction m with
  | zero => intro a ts h; omega
  | succ m ih =>
    intro a ts hm ha hts h
    rw [tempsAt] at h
    by_cases c : a < x.size
    · rw [if_pos c] at h
      by_cases c2 : a + 4 ≤ x.size
      · rw [if_pos c2] at h
        obtain ⟨q1, q2⟩ := rnum22_ok x a c2
        have p0 := pre_2 (suf x (a + 2))
        have hN : ((pre (suf x (a + 2)) 2).toNat : Int) = pre (suf x (a + 2)) 2 := by omega
        cases e : fieldsAt x (pre (suf x (a + 2)) 2).toNat (a + 4) [] with
        | none =>
          obtain ⟨q, h1, h2⟩ := set_fields_none x r rb id ts (by omega) data (pre (suf x (a + 2)) 2).toNat (by omega) (pre (suf x a) 2) _ 0 (a + 4) [] (by omega) (Nat.le_refl _) e
          refine ⟨q, set_more x a c r rb id ts data ?_, h2⟩
          rw [q1]
          simp only
          rw [q2]
          simp only
          rw [← hN]
          exact h1
        | some p =>
          obtain ⟨fs, b⟩ := p
          rw [e] at h
          have hb := fieldsAt_le x _ _ _ _ _ c2 e
          obtain ⟨q, h1, h2⟩ := ih b (ts ++ [⟨pre (suf x a) 2, fs⟩]) (by omega) hb.2.1 (by simp; omega) h
          refine ⟨q, set_more x a c r rb id ts data ?_, h2⟩
          rw [q1]
          simp only
          rw [q2]
          simp only
          rw [← hN]
          exact set_fields_some x r rb id ts (by omega) data _ (by omega) _ _ 0 (a + 4) [] fs b (by omega) (Nat.le_refl _) e h1
      · have hb := rnum22_bad x a c2
        obtain ⟨q, h1, h2⟩ := set_bad r rb id ts (by omega) data (rnumP (rnumP (suf x a) false 2).2.1 (rnumP (suf x a) false 2).2.2 2).2.1 (rnumP (rnumP (suf x a) false 2).2.1 (rnumP (suf x a) false 2).2.2 2).1 0 (rnumP (suf x a) false 2).1 []
        refine ⟨q, set_more x a c r rb id ts data ?_, h2⟩
        rw [hb]
        exact h1
    · rw [if_neg c] at h; cases h

/-- a set at a place, and the place behind; none: there is none -/
def setAt (x : ByteArray) (a : Nat) : Option (S29 × Nat) :=
  if a + 4 ≤ x.size then
    (if 4 ≤ pre (suf x (a + 2)) 2 ∧ a + (pre (suf x (a + 2)) 2).toNat ≤ x.size then
      (if pre (suf x a) 2 = 2 then
        (match tempsAt (x.extract (a + 4) (a + (pre (suf x (a + 2)) 2).toNat)) ((x.extract (a + 4) (a + (pre (suf x (a + 2)) 2).toNat)).size + 1) 0 [] with
         | some ts => some (⟨2, ts, ⟨#[]⟩⟩, a + (pre (suf x (a + 2)) 2).toNat)
         | none => none)
       else some (⟨pre (suf x a) 2, [], x.extract (a + 4) (a + (pre (suf x (a + 2)) 2).toNat)⟩, a + (pre (suf x (a + 2)) 2).toNat))
     else none)
  else none
theorem set_spec (x : ByteArray) (hx : x.size ≤ 1000000) (a : Nat) :
    (∀ s b, setAt x a = some (s, b) → Evt (fun k => ipfix_reader_set.f k (suf x a) false) (s.f0, s.f1, s.f2, suf x b, false) ∧ a + 4 ≤ b ∧ b ≤ x.size ∧ s.f1.length ≤ x.size) ∧
    (setAt x a = none → ∃ q, Evt (fun k => ipfix_reader_set.f k (suf x a) false) q ∧ q.2.2.2.2 = true) := by
  obtain ⟨m, e⟩ := rnum2' (suf x a) false
  have go : ∀ (X Y : Int × ByteArray × Bool), rnumP (suf x a) false 2 = X → rnumP X.2.1 X.2.2 2 = Y → ∀ k, m ≤ k → ipfix_reader_set.f k (suf x a) false = (if X.1 = 2 then ipfix_reader_set.l0 k (rtextP Y.2.1 Y.2.2 (wrap64 (Y.1 - 4))).2.1 (rtextP Y.2.1 Y.2.2 (wrap64 (Y.1 - 4))).2.2 X.1 [] ⟨#[]⟩ (rtextP Y.2.1 Y.2.2 (wrap64 (Y.1 - 4))).1 false else some (X.1, [], (rtextP Y.2.1 Y.2.2 (wrap64 (Y.1 - 4))).1, (rtextP Y.2.1 Y.2.2 (wrap64 (Y.1 - 4))).2.1, (rtextP Y.2.1 Y.2.2 (wrap64 (Y.1 - 4))).2.2)) := by
    rintro X Y rfl rfl k hk
    unfold ipfix_reader_set.f
    rw [(e k hk).1, Option.bind_some, (e k hk).2, Option.bind_some, rtext_spec, Option.bind_some]
    rfl
  -- whatever is not there: nothing is read, and the reader is bad
  have bad : ∀ (X Y : Int × ByteArray × Bool), rnumP (suf x a) false 2 = X → rnumP X.2.1 X.2.2 2 = Y → (rtextP Y.2.1 Y.2.2 (wrap64 (Y.1 - 4))) = (⟨#[]⟩, ⟨#[]⟩, true) → ∃ q, Evt (fun k => ipfix_reader_set.f k (suf x a) false) q ∧ q.2.2.2.2 = true := by
    intro X Y hX hY hz
    have g := go X Y hX hY
    rw [hz] at g
    by_cases c : X.1 = 2
    · obtain ⟨m2, e2⟩ := set_end ⟨#[]⟩ true X.1 [] ⟨#[]⟩ ⟨#[]⟩ false rfl
      exact ⟨(X.1, [], ⟨#[]⟩, ⟨#[]⟩, true), ⟨m + m2, fun k hk => (g k (by omega)).trans ((if_pos c).trans (e2 k (by omega)))⟩, rfl⟩
    · exact ⟨(X.1, [], ⟨#[]⟩, ⟨#[]⟩, true), ⟨m, fun k hk => (g k hk).trans (if_neg c)⟩, rfl⟩
  by_cases c : a + 4 ≤ x.size
  · obtain ⟨q1, q2⟩ := rnum22_ok x a c
    have p0 := pre_2 (suf x (a + 2))
    have p1 := pre_2 (suf x a)
    have hw : ∀ _ : Unit, wrap64 (pre (suf x (a + 2)) 2 - 4) = pre (suf x (a + 2)) 2 - 4 := by intro _; exact i64_in _ (by omega) (by omega)
    by_cases c2 : 4 ≤ pre (suf x (a + 2)) 2 ∧ a + (pre (suf x (a + 2)) 2).toNat ≤ x.size
    · have g := go _ _ q1 q2
      simp only at g
      rw [hw (), rtextP_suf x (a + 4) false _ (by omega) (by omega), show a + 4 + (pre (suf x (a + 2)) 2 - 4).toNat = a + (pre (suf x (a + 2)) 2).toNat by omega] at g
      have hbz : (x.extract (a + 4) (a + (pre (suf x (a + 2)) 2).toNat)).size ≤ x.size := by rw [ByteArray.size_extract]; omega
      unfold setAt
      rw [if_pos c, if_pos c2]
      by_cases c3 : pre (suf x a) 2 = 2
      · rw [if_pos c3]
        cases e3 : tempsAt (x.extract (a + 4) (a + (pre (suf x (a + 2)) 2).toNat)) ((x.extract (a + 4) (a + (pre (suf x (a + 2)) 2).toNat)).size + 1) 0 [] with
        | some ts =>
          refine ⟨fun s b h => ?_, fun h => by cases h⟩
          simp only [Option.some.injEq, Prod.mk.injEq] at h
          obtain ⟨rfl, rfl⟩ := h
          have h1 := set_temps_some _ (by omega) (suf x (a + (pre (suf x (a + 2)) 2).toNat)) false 2 ⟨#[]⟩ _ 0 [] ts (Nat.zero_le _) (Nat.le_refl _) e3
          rw [suf_zero] at h1
          obtain ⟨⟨m2, e2⟩, h2⟩ := h1
          refine ⟨⟨m + m2, fun k hk => ?_⟩, by omega, by omega, by simp only; omega⟩
          refine (g k (by omega)).trans ((if_pos c3).trans ?_)
          rw [c3]
          exact e2 k (by omega)
        | none =>
          refine ⟨fun s b h => (by cases h), fun _ => ?_⟩
          obtain ⟨q, h1, h2⟩ := set_temps_none _ (by omega) (suf x (a + (pre (suf x (a + 2)) 2).toNat)) false 2 ⟨#[]⟩ _ 0 [] (by omega) (Nat.zero_le _) (Nat.le_refl _) e3
          rw [suf_zero] at h1
          obtain ⟨m2, e2⟩ := h1
          refine ⟨q, ⟨m + m2, fun k hk => ?_⟩, h2.2⟩
          refine (g k (by omega)).trans ((if_pos c3).trans ?_)
          rw [c3]
          exact e2 k (by omega)
      · rw [if_neg c3]
        refine ⟨fun s b h => ?_, fun h => by cases h⟩
        simp only [Option.some.injEq, Prod.mk.injEq] at h
        obtain ⟨rfl, rfl⟩ := h
        refine ⟨⟨m, fun k hk => ?_⟩, by omega, by omega, Nat.zero_le _⟩
        exact (g k hk).trans (if_neg c3)
    · unfold setAt
      rw [if_pos c, if_neg c2]
      refine ⟨fun s b h => (by cases h), fun _ => bad _ _ q1 q2 ?_⟩
      simp only
      rw [hw ()]
      exact rtextP_suf' x (a + 4) false _ c (by omega)
  · unfold setAt
    rw [if_neg c]
    refine ⟨fun s b h => (by cases h), fun _ => ?_⟩
    have hz : rnumP (rnumP (suf x a) false 2).2.1 (rnumP (suf x a) false 2).2.2 2 = (0, ⟨#[]⟩, true) := by
      by_cases d : a + 2 ≤ x.size
      · rw [rnumP_suf x a false 2 (by decide) d]
        exact rnumP_suf' x (a + 2) false 2 (by decide) (by decide) (by omega)
      · rw [rnumP_suf' x a false 2 (by decide) (by decide) d]
        rfl
    refine bad _ _ rfl rfl ?_
    rw [hz]
    simp only
    rw [rtextP_eq, if_neg (by rw [i64_in _ (by omega) (by omega)]; omega)]

/-- sets up to the end; none: there are none -/
def takeAt (x : ByteArray) : Nat → Nat → List S29 → Option (List S29)
  | 0, _, _ => none
  | m + 1, a, acc => if a < x.size then (match setAt x a with | some (s, b) => takeAt x m b (acc ++ [s]) | none => none) else some acc
theorem fieldsAt_len (x : ByteArray) : ∀ (n a : Nat) (acc fs : List S82) (b : Nat), fieldsAt x n a acc = some (fs, b) → fs.length = acc.length + n := by
  intro n
  induction n with
  | zero => intro a acc fs b h; simp only [fieldsAt, Option.some.injEq, Prod.mk.injEq] at h; obtain ⟨rfl, rfl⟩ := h; rfl
  | succ n ih =>
    intro a acc fs b h
    rw [fieldsAt] at h
    split at h
    · split at h
      · split at h
        · split at h
          · cases h
          · have := ih _ _ _ _ h; rw [List.length_append, List.length_singleton] at this; omega
        · cases h
      · have := ih _ _ _ _ h; rw [List.length_append, List.length_singleton] at this; omega
    · cases h
theorem tempsAt_len (x : ByteArray) : ∀ (m a : Nat) (acc ts : List S37), (∀ t ∈ acc, t.f1.length ≤ 65535) → tempsAt x m a acc = some ts → ∀ t ∈ ts, t.f1.length ≤ 65535 := by
  intro m
  induction m with
  | zero => intro a acc ts _ h; cases h
  | succ m ih =>
    intro a acc ts ha h
    rw [tempsAt] at h
    split at h
    · split at h
      · cases e : fieldsAt x (pre (suf x (a + 2)) 2).toNat (a + 4) [] with
        | none => rw [e] at h; cases h
        | some p =>
          obtain ⟨fs, b⟩ := p
          rw [e] at h
          refine ih _ _ _ (fun t ht => ?_) h
          rcases List.mem_append.1 ht with ht | ht
          · exact ha t ht
          · rw [List.mem_singleton.1 ht]
            have h1 := fieldsAt_len x _ _ _ _ _ e
            have h2 := pre_2 (suf x (a + 2))
            simp only [List.length_nil] at h1
            simp only; omega
      · cases h
    · simp only [Option.some.injEq] at h
      subst h; exact ha
theorem setAt_len (x : ByteArray) (a : Nat) (s : S29) (b : Nat) (h : setAt x a = some (s, b)) : ∀ t ∈ s.f1, t.f1.length ≤ 65535 := by
  unfold setAt at h
  split at h
  · split at h
    · split at h
      · cases e : tempsAt (x.extract (a + 4) (a + (pre (suf x (a + 2)) 2).toNat)) ((x.extract (a + 4) (a + (pre (suf x (a + 2)) 2).toNat)).size + 1) 0 [] with
        | none => rw [e] at h; cases h
        | some ts =>
          rw [e] at h
          simp only [Option.some.injEq, Prod.mk.injEq] at h
          obtain ⟨rfl, rfl⟩ := h
          exact tempsAt_len _ _ _ _ _ (fun t ht => by cases ht) e
      · simp only [Option.some.injEq, Prod.mk.injEq] at h
        obtain ⟨rfl, rfl⟩ := h
        intro t ht; cases ht
    · cases h
  · cases h
/-- what is told of a message -/
def tookR (t s d : Int) (o : Option (List S29)) : Int × Int × Int × List S29 × Int := match o with | some l => if rightB t s d l = true then (t, s, d, l, 0) else (0, 0, 0, [], 3) | none => (0, 0, 0, [], 3)
def smallS (l : List S29) : Prop := ∀ y ∈ l, y.f1.length ≤ 9223372036854775807 ∧ ∀ t ∈ y.f1, t.f1.length ≤ 9223372036854775807
theorem takeM_l0 (x : ByteArray) (hx : x.size ≤ 1000000) (t s d : Int) : ∀ (m a : Nat) (acc : List S29), x.size - a < m → a ≤ x.size → acc.length ≤ a → smallS acc →
    Evt (fun k => ipfix_Take.l0 k (suf x a) false t s d acc) (tookR t s d (takeAt x m a acc)) := by
  intro m
  induction m with
  | zero => intro a acc h; omega
  | succ m ih =>
    intro a acc hm ha hl hs
    rw [takeAt]
    by_cases c : a < x.size
    · rw [if_pos c]
      have hc : ¬ ((suf x a).toList = ([] : List UInt8)) := by rw [toList_nil_iff, suf_size]; omega
      obtain ⟨h1, h2⟩ := set_spec x hx a
      cases e : setAt x a with
      | none =>
        obtain ⟨q, ⟨m1, e1⟩, hq⟩ := h2 e
        refine ⟨m1 + 2, fun k hk => ?_⟩
        obtain ⟨k, rfl⟩ : ∃ z, k = z + 2 := ⟨k - 2, by omega⟩
        have e1 := e1 (k + 1) (by omega)
        simp only at e1
        simp only [ipfix_Take.l0]
        rw [if_neg hc, if_neg (by decide), e1, Option.bind_some, if_pos (by omega), hq]
        simp only [if_true]
        split <;> rfl
      | some p =>
        obtain ⟨y, b⟩ := p
        obtain ⟨⟨m1, e1⟩, hb1, hb2, hy⟩ := h1 y b e
        have hss : smallS (acc ++ [y]) := by
          intro z hz
          rcases List.mem_append.1 hz with hz | hz
          · exact hs z hz
          · rw [List.mem_singleton.1 hz]
            exact ⟨by omega, fun t ht => by have := setAt_len x a y b e t ht; omega⟩
        obtain ⟨m2, e2⟩ := ih b (acc ++ [y]) (by omega) hb2 (by simp; omega) hss
        refine ⟨m1 + m2 + 1, fun k hk => ?_⟩
        obtain ⟨k, rfl⟩ : ∃ z, k = z + 1 := ⟨k - 1, by omega⟩
        have e1 := e1 k (by omega)
        simp only at e1
        simp only [ipfix_Take.l0]
        rw [if_neg hc, if_neg (by decide), e1, Option.bind_some, if_pos (by omega)]
        exact e2 k (by omega)
    · rw [if_neg c]
      have hc : (suf x a).toList = ([] : List UInt8) := by rw [toList_nil_iff, suf_size]; omega
      refine Evt.step (Evt.now (f := fun _ => some _) (fun _ => rfl)) (fun k => ?_)
      simp only [ipfix_Take.l0]
      rw [if_pos hc, if_neg (by decide), right_spec t s d acc (by omega) hs, Option.bind_some]
      simp only [tookR]
      split <;> rfl
/-- a message -/
def takeM (x : ByteArray) : Int × Int × Int × List S29 × Int :=
  if x.size < 16 then (0, 0, 0, [], 2) else if pre (suf x 0) 2 = 10 then (if pre (suf x 2) 2 = (x.size : Int) then tookR (pre (suf x 4) 4) (pre (suf x 8) 4) (pre (suf x 12) 4) (takeAt x (x.size + 1) 16 []) else (0, 0, 0, [], 13)) else (0, 0, 0, [], 10)
theorem take_spec_m (x : ByteArray) (hx : x.size ≤ 1000000) : Evt (fun k => ipfix_Take.f k x) (takeM x) := by
  unfold takeM
  by_cases c : x.size < 16
  · rw [if_pos c]
    refine Evt.eq (Evt.now (f := fun _ => some _) (fun _ => rfl)) (fun k => ?_)
    unfold ipfix_Take.f
    rw [if_pos (by omega)]
  · rw [if_neg c]
    have n1 := rnumP_suf x 0 false 2 (by decide) (by omega)
    have n2 := rnumP_suf x (0 + 2) false 2 (by decide) (by omega)
    have n3 := rnumP_suf x (0 + 2 + 2) false 4 (by decide) (by omega)
    have n4 := rnumP_suf x (0 + 2 + 2 + 4) false 4 (by decide) (by omega)
    have n5 := rnumP_suf x (0 + 2 + 2 + 4 + 4) false 4 (by decide) (by omega)
    obtain ⟨m1, e1⟩ := rnum_spec (suf x 0) false 2 (by decide) (by decide)
    obtain ⟨m2, e2⟩ := rnum_spec (suf x (0 + 2)) false 2 (by decide) (by decide)
    obtain ⟨m3, e3⟩ := rnum_spec (suf x (0 + 2 + 2)) false 4 (by decide) (by decide)
    obtain ⟨m4, e4⟩ := rnum_spec (suf x (0 + 2 + 2 + 4)) false 4 (by decide) (by decide)
    obtain ⟨m5, e5⟩ := rnum_spec (suf x (0 + 2 + 2 + 4 + 4)) false 4 (by decide) (by decide)
    rw [n1] at e1
    rw [n2] at e2
    rw [n3] at e3
    rw [n4] at e4
    rw [n5] at e5
    obtain ⟨m6, e6⟩ := takeM_l0 x hx (pre (suf x 4) 4) (pre (suf x 8) 4) (pre (suf x 12) 4) (x.size + 1) 16 [] (by omega) (by omega) (Nat.zero_le _) (fun y hy => by cases hy)
    refine ⟨m1 + m2 + m3 + m4 + m5 + m6, fun k hk => ?_⟩
    have e1 := e1 k (by omega)
    have e2 := e2 k (by omega)
    have e3 := e3 k (by omega)
    have e4 := e4 k (by omega)
    have e5 := e5 k (by omega)
    have e6 := e6 k (by omega)
    simp only [Nat.zero_add, Nat.reduceAdd, Int.cast_ofNat_Int, suf_zero] at e1 e2 e3 e4 e5 e6 ⊢
    unfold ipfix_Take.f abi_NoEscape.f
    rw [if_neg (by omega), Option.bind_some, e1, Option.bind_some, e2, Option.bind_some, e3, Option.bind_some, e4, Option.bind_some, e5, Option.bind_some]
    simp only
    by_cases d : pre x 2 = 10
    · rw [if_pos d, if_pos d]
      by_cases f : pre (suf x 2) 2 = (x.size : Int)
      · rw [if_pos f, if_pos f]; exact e6
      · rw [if_neg f, if_neg f]
    · rw [if_neg d, if_neg d]

theorem same22_l0 (id : Int) (l : List S88) (hl : l.length ≤ 1000000) : ∀ (d i : Nat), i + d = l.length → Evt (fun k => rillmeterref22_Same.l0 k (i : Int) id l id l) true := by
  intro d
  induction d with
  | zero =>
    intro i hi
    refine Evt.step (Evt.now (f := fun _ => some _) (fun _ => rfl)) (fun k => ?_)
    simp only [rillmeterref22_Same.l0]
    rw [if_neg (by omega)]
  | succ d ih =>
    intro i hi
    refine Evt.step (ih (i + 1) (by omega)) (fun k => ?_)
    simp only [rillmeterref22_Same.l0]
    rw [if_pos (by omega), if_pos (by omega), if_pos (by omega), if_neg (by simp), i64_in ((i : Int) + 1) (by omega) (by omega), show (i : Int) + 1 = ((i + 1 : Nat) : Int) by omega]
theorem same22_spec (id : Int) (l : List S88) (hl : l.length ≤ 1000000) : Evt (fun k => rillmeterref22_Same.f k id l id l) true := by
  have hj : Evt (fun k => rillmeterref22_Same.j0 k false id l id l) true := by
    refine Evt.step (same22_l0 id l hl l.length 0 (by omega)) (fun k => ?_)
    simp only [rillmeterref22_Same.j0]
    rw [if_neg (by decide)]
    rfl
  refine hj.eq (fun k => ?_)
  unfold rillmeterref22_Same.f
  rw [if_pos rfl, bne_self_eq_false]
theorem equal_l1 (a b c : Int) (L : List S93) (n : Nat) (hn : n ≤ 1000000) (id : Int) (ts : List S46) (data : ByteArray) (hts : ts.length ≤ 1000000) (hb : ∀ t ∈ ts, t.f1.length ≤ 65535) (h : Evt (fun k => rillmeterref22_Equal.l0 k ((n + 1 : Nat) : Int) a b c L a b c L) true) :
    ∀ (d i : Nat), i + d = ts.length → Evt (fun k => rillmeterref22_Equal.l1 k (n : Int) (i : Int) a b c L a b c L id ts data id ts data) true := by
  intro d
  induction d with
  | zero =>
    intro i hi
    refine Evt.step h (fun k => ?_)
    simp only [rillmeterref22_Equal.l1]
    rw [if_neg (by omega), i64_in ((n : Int) + 1) (by omega) (by omega)]
    rfl
  | succ d ih =>
    intro i hi
    have hm : rd_T46 ts (i : Int) ∈ ts := by
      unfold rd_T46
      rw [Int.toNat_natCast, List.getD_eq_getElem?_getD, List.getElem?_eq_getElem (by omega)]
      exact List.getElem_mem _
    obtain ⟨m1, e1⟩ := same22_spec (rd_T46 ts (i : Int)).f0 (rd_T46 ts (i : Int)).f1 (by have := hb _ hm; omega)
    obtain ⟨m2, e2⟩ := ih (i + 1) (by omega)
    refine ⟨m1 + m2 + 1, fun k hk => ?_⟩
    obtain ⟨k, rfl⟩ : ∃ z, k = z + 1 := ⟨k - 1, by omega⟩
    have e1 := e1 k (by omega)
    have e2 := e2 k (by omega)
    simp only at e1 e2
    simp only [rillmeterref22_Equal.l1]
    rw [if_pos (by omega), if_pos (by omega), if_pos (by omega), e1, Option.bind_some, if_pos rfl, i64_in ((i : Int) + 1) (by omega) (by omega), show (i : Int) + 1 = ((i + 1 : Nat) : Int) by omega]
    exact e2
theorem equal_l0 (a b c : Int) (L : List S93) (hL : L.length ≤ 1000000) (hb : ∀ y ∈ L, y.f1.length ≤ 1000000 ∧ ∀ t ∈ y.f1, t.f1.length ≤ 65535) : ∀ (d i : Nat), i + d = L.length → Evt (fun k => rillmeterref22_Equal.l0 k (i : Int) a b c L a b c L) true := by
  intro d
  induction d with
  | zero =>
    intro i hi
    refine Evt.step (Evt.now (f := fun _ => some _) (fun _ => rfl)) (fun k => ?_)
    simp only [rillmeterref22_Equal.l0]
    rw [if_neg (by omega)]
  | succ d ih =>
    intro i hi
    have hm : rd_T93 L (i : Int) ∈ L := by
      unfold rd_T93
      rw [Int.toNat_natCast, List.getD_eq_getElem?_getD, List.getElem?_eq_getElem (by omega)]
      exact List.getElem_mem _
    have hy := hb _ hm
    have h1 := equal_l1 a b c L i (by omega) (rd_T93 L (i : Int)).f0 (rd_T93 L (i : Int)).f1 (rd_T93 L (i : Int)).f2 hy.1 hy.2 (ih (i + 1) (by omega)) (rd_T93 L (i : Int)).f1.length 0 (by omega)
    have h2 : Evt (fun k => rillmeterref22_Equal.j2 k (i : Int) false a b c L a b c L (rd_T93 L (i : Int)).f0 (rd_T93 L (i : Int)).f1 (rd_T93 L (i : Int)).f2 (rd_T93 L (i : Int)).f0 (rd_T93 L (i : Int)).f1 (rd_T93 L (i : Int)).f2) true := by
      refine Evt.step h1 (fun k => ?_)
      simp only [rillmeterref22_Equal.j2]
      rw [if_neg (by decide)]
      rfl
    refine Evt.step h2 (fun k => ?_)
    simp only [rillmeterref22_Equal.l0]
    rw [if_pos (by omega), if_pos (by omega), if_pos (by omega), if_pos trivial, if_pos trivial, bne_self_eq_false]
theorem equal_spec (a b c : Int) (L : List S93) (hL : L.length ≤ 1000000) (hb : ∀ y ∈ L, y.f1.length ≤ 1000000 ∧ ∀ t ∈ y.f1, t.f1.length ≤ 65535) : Evt (fun k => rillmeterref22_Equal.f k a b c L a b c L) true := by
  have hj : Evt (fun k => rillmeterref22_Equal.j0 k false a b c L a b c L) true := by
    refine Evt.step (equal_l0 a b c L hL hb L.length 0 (by omega)) (fun k => ?_)
    simp only [rillmeterref22_Equal.j0]
    rw [if_neg (by decide)]
    rfl
  refine hj.eq (fun k => ?_)
  unfold rillmeterref22_Equal.f
  rw [if_pos rfl, if_pos rfl, if_pos rfl, bne_self_eq_false]

/-- texts one behind the other -/
def cat : List ByteArray → ByteArray
  | [] => ⟨#[]⟩
  | s :: l => s ++ cat l
theorem cat_app : ∀ (a b : List ByteArray), cat (a ++ b) = cat a ++ cat b := by
  intro a b
  induction a with
  | nil => exact (nil_app _).symm
  | cons s l ih => rw [List.cons_append, cat, cat, ih, ByteArray.append_assoc]
/-- a field, a template, a set's body, a set, a message as bytes -/
def encF (y : S82) : ByteArray := if y.f2 = 0 then beS y.f0 2 ++ beS y.f1 2 else beS (y.f0 + 32768) 2 ++ beS y.f1 2 ++ beS y.f2 4
def encT (t : S37) : ByteArray := beS t.f0 2 ++ beS t.f1.length 2 ++ cat (t.f1.map encF)
def encB (y : S29) : ByteArray := y.f2 ++ cat (y.f1.map encT)
def encS (y : S29) : ByteArray := beS y.f0 2 ++ beS ((encB y).size + 4 : Nat) 2 ++ encB y
def encM (a b c : Int) (l : List S29) : ByteArray := beS 10 2 ++ beS (16 + (cat (l.map encS)).size : Nat) 2 ++ beS a 4 ++ beS b 4 ++ beS c 4 ++ cat (l.map encS)
theorem beS_suf (x : ByteArray) (a n : Nat) (h : a + n ≤ x.size) : beS (pre (suf x a) n) n = x.extract a (a + n) := by
  rw [← pre_ex x a n h, beS_pre _ _ (by rw [ByteArray.size_extract]; omega)]
theorem ex_self (x : ByteArray) (a : Nat) : x.extract a a = ⟨#[]⟩ := size_zero (by rw [ByteArray.size_extract]; omega)
theorem fieldsAt_enc (x : ByteArray) : ∀ (n a : Nat) (acc fs : List S82) (b : Nat), a ≤ x.size → fieldsAt x n a acc = some (fs, b) → ∃ new, fs = acc ++ new ∧ cat (new.map encF) = x.extract a b := by
  intro n
  induction n with
  | zero =>
    intro a acc fs b ha h
    simp only [fieldsAt, Option.some.injEq, Prod.mk.injEq] at h
    obtain ⟨rfl, rfl⟩ := h
    exact ⟨[], (List.append_nil _).symm, (ex_self x a).symm⟩
  | succ n ih =>
    intro a acc fs b ha h
    rw [fieldsAt] at h
    by_cases c : a + 4 ≤ x.size
    · rw [if_pos c] at h
      by_cases d : 32768 ≤ pre (suf x a) 2
      · rw [if_pos d] at h
        by_cases e : a + 8 ≤ x.size
        · rw [if_pos e] at h
          by_cases z : pre (suf x (a + 4)) 4 = 0
          · rw [if_pos z] at h; cases h
          · rw [if_neg z] at h
            obtain ⟨new, hf, hn⟩ := ih (a + 8) _ fs b e h
            have hb := fieldsAt_le x _ _ _ _ _ e h
            refine ⟨⟨pre (suf x a) 2 - 32768, pre (suf x (a + 2)) 2, pre (suf x (a + 4)) 4⟩ :: new, by rw [hf, List.append_assoc]; rfl, ?_⟩
            rw [List.map_cons, cat, hn, encF, if_neg z]
            simp only [Int.sub_add_cancel]
            rw [beS_suf x a 2 (by omega), beS_suf x (a + 2) 2 (by omega), beS_suf x (a + 4) 4 (by omega), app_ex x a (a + 2) (a + 2 + 2) (by omega) (by omega) (by omega), app_ex x a (a + 4) (a + 4 + 4) (by omega) (by omega) (by omega), app_ex x a (a + 8) b (by omega) (by omega) (by omega)]
        · rw [if_neg e] at h; cases h
      · rw [if_neg d] at h
        obtain ⟨new, hf, hn⟩ := ih (a + 4) _ fs b c h
        have hb := fieldsAt_le x _ _ _ _ _ c h
        refine ⟨⟨pre (suf x a) 2, pre (suf x (a + 2)) 2, 0⟩ :: new, by rw [hf, List.append_assoc]; rfl, ?_⟩
        rw [List.map_cons, cat, hn, encF, if_pos rfl]
        simp only
        rw [beS_suf x a 2 (by omega), beS_suf x (a + 2) 2 (by omega), app_ex x a (a + 2) (a + 2 + 2) (by omega) (by omega) (by omega), app_ex x a (a + 4) b (by omega) (by omega) (by omega)]
    · rw [if_neg c] at h; cases h
theorem tempsAt_enc (x : ByteArray) : ∀ (m a : Nat) (acc ts : List S37), a ≤ x.size → tempsAt x m a acc = some ts → ∃ new, ts = acc ++ new ∧ cat (new.map encT) = x.extract a x.size := by
  intro m
  induction m with
  | zero => intro a acc ts _ h; cases h
  | succ m ih =>
    intro a acc ts ha h
    rw [tempsAt] at h
    by_cases c : a < x.size
    · rw [if_pos c] at h
      by_cases d : a + 4 ≤ x.size
      · rw [if_pos d] at h
        cases e : fieldsAt x (pre (suf x (a + 2)) 2).toNat (a + 4) [] with
        | none => rw [e] at h; cases h
        | some p =>
          obtain ⟨fs, b⟩ := p
          rw [e] at h
          have hb := fieldsAt_le x _ _ _ _ _ d e
          obtain ⟨nf, hf, hn⟩ := fieldsAt_enc x _ _ _ _ _ d e
          obtain ⟨new, ht, hn2⟩ := ih b _ ts hb.2.1 h
          have p0 := pre_2 (suf x (a + 2))
          have hl : (fs.length : Int) = pre (suf x (a + 2)) 2 := by have := hb.2.2.1; rw [List.length_nil] at this; omega
          refine ⟨⟨pre (suf x a) 2, fs⟩ :: new, by rw [ht, List.append_assoc]; rfl, ?_⟩
          rw [List.map_cons, cat, hn2, encT]
          simp only
          rw [hl, hf, List.nil_append, hn, beS_suf x a 2 (by omega), beS_suf x (a + 2) 2 (by omega), app_ex x a (a + 2) (a + 2 + 2) (by omega) (by omega) (by omega), app_ex x a (a + 4) b (by omega) (by omega) (by omega), app_ex x a b x.size (by omega) (by omega) (by omega)]
      · rw [if_neg d] at h; cases h
    · rw [if_neg c] at h
      simp only [Option.some.injEq] at h
      have : a = x.size := by omega
      exact ⟨[], by rw [h, List.append_nil], by rw [this]; exact (ex_self x _).symm⟩
theorem setAt_enc (x : ByteArray) (a : Nat) (y : S29) (b : Nat) (h : setAt x a = some (y, b)) : encS y = x.extract a b ∧ a + 4 ≤ b ∧ b ≤ x.size := by
  unfold setAt at h
  by_cases c : a + 4 ≤ x.size
  · rw [if_pos c] at h
    by_cases d : 4 ≤ pre (suf x (a + 2)) 2 ∧ a + (pre (suf x (a + 2)) 2).toNat ≤ x.size
    · rw [if_pos d] at h
      have hz : (x.extract (a + 4) (a + (pre (suf x (a + 2)) 2).toNat)).size = (pre (suf x (a + 2)) 2).toNat - 4 := by rw [ByteArray.size_extract]; omega
      have key : ∀ (i : Int) (ts : List S37) (s : ByteArray), i = pre (suf x a) 2 → encB ⟨i, ts, s⟩ = x.extract (a + 4) (a + (pre (suf x (a + 2)) 2).toNat) → encS ⟨i, ts, s⟩ = x.extract a (a + (pre (suf x (a + 2)) 2).toNat) := by
        intro i ts s hi hB
        rw [encS, hB, hz, hi, show (((pre (suf x (a + 2)) 2).toNat - 4 + 4 : Nat) : Int) = pre (suf x (a + 2)) 2 by omega, beS_suf x a 2 (by omega), beS_suf x (a + 2) 2 (by omega), app_ex x a (a + 2) (a + 2 + 2) (by omega) (by omega) (by omega), app_ex x a (a + 4) _ (by omega) (by omega) (by omega)]
      by_cases e : pre (suf x a) 2 = 2
      · rw [if_pos e] at h
        cases f : tempsAt (x.extract (a + 4) (a + (pre (suf x (a + 2)) 2).toNat)) ((x.extract (a + 4) (a + (pre (suf x (a + 2)) 2).toNat)).size + 1) 0 [] with
        | none => rw [f] at h; cases h
        | some ts =>
          rw [f] at h
          simp only [Option.some.injEq, Prod.mk.injEq] at h
          obtain ⟨rfl, rfl⟩ := h
          obtain ⟨new, h1, h2⟩ := tempsAt_enc _ _ _ _ _ (Nat.zero_le _) f
          refine ⟨key _ _ _ e.symm ?_, by omega, by omega⟩
          rw [encB]
          simp only
          rw [nil_app, h1, List.nil_append, h2, ex_all]
      · rw [if_neg e] at h
        simp only [Option.some.injEq, Prod.mk.injEq] at h
        obtain ⟨rfl, rfl⟩ := h
        refine ⟨key _ _ _ rfl ?_, by omega, by omega⟩
        exact app_nil _
    · rw [if_neg d] at h; cases h
  · rw [if_neg c] at h; cases h
theorem takeAt_enc (x : ByteArray) : ∀ (m a : Nat) (acc l : List S29), a ≤ x.size → takeAt x m a acc = some l → ∃ new, l = acc ++ new ∧ cat (new.map encS) = x.extract a x.size := by
  intro m
  induction m with
  | zero => intro a acc l _ h; cases h
  | succ m ih =>
    intro a acc l ha h
    rw [takeAt] at h
    by_cases c : a < x.size
    · rw [if_pos c] at h
      cases e : setAt x a with
      | none => rw [e] at h; cases h
      | some p =>
        obtain ⟨y, b⟩ := p
        rw [e] at h
        obtain ⟨h1, h2, h3⟩ := setAt_enc x a y b e
        obtain ⟨new, h4, h5⟩ := ih b _ l h3 h
        refine ⟨y :: new, by rw [h4, List.append_assoc]; rfl, ?_⟩
        rw [List.map_cons, cat, h1, h5, app_ex x a b x.size (by omega) (by omega) (by omega)]
    · rw [if_neg c] at h
      simp only [Option.some.injEq] at h
      have : a = x.size := by omega
      exact ⟨[], by rw [h, List.append_nil], by rw [this]; exact (ex_self x _).symm⟩
theorem takeM_enc (x : ByteArray) (h : (takeM x).2.2.2.2 = 0) : encM (takeM x).1 (takeM x).2.1 (takeM x).2.2.1 (takeM x).2.2.2.1 = x ∧ rightB (takeM x).1 (takeM x).2.1 (takeM x).2.2.1 (takeM x).2.2.2.1 = true ∧ 16 + (cat ((takeM x).2.2.2.1.map encS)).size = x.size := by
  unfold takeM at h ⊢
  by_cases c : x.size < 16
  · rw [if_pos c] at h; exact absurd h (by decide)
  · rw [if_neg c] at h ⊢
    by_cases d : pre (suf x 0) 2 = 10
    · rw [if_pos d] at h ⊢
      by_cases e : pre (suf x 2) 2 = (x.size : Int)
      · rw [if_pos e] at h ⊢
        unfold tookR at h ⊢
        cases f : takeAt x (x.size + 1) 16 [] with
        | none => rw [f] at h; exact absurd (show (3 : Int) = 0 from h) (by decide)
        | some l =>
          rw [f] at h
          simp only at h ⊢
          by_cases g : rightB (pre (suf x 4) 4) (pre (suf x 8) 4) (pre (suf x 12) 4) l = true
          · rw [if_pos g]
            obtain ⟨new, h4, h5⟩ := takeAt_enc x _ _ _ _ (by omega) f
            rw [List.nil_append] at h4
            rw [← h4] at h5
            have hz : 16 + (cat (l.map encS)).size = x.size := by rw [h5, ByteArray.size_extract]; omega
            refine ⟨?_, g, hz⟩
            simp only [encM]
            rw [hz, ← e, h5]
            have q0 := beS_suf x 0 2 (by omega)
            rw [d] at q0
            rw [q0, beS_suf x 2 2 (by omega), beS_suf x 4 4 (by omega), beS_suf x 8 4 (by omega), beS_suf x 12 4 (by omega)]
            simp only [Nat.zero_add, Nat.reduceAdd]
            rw [app_ex x 0 2 4 (by omega) (by omega) (by omega), app_ex x 0 4 8 (by omega) (by omega) (by omega), app_ex x 0 8 12 (by omega) (by omega) (by omega), app_ex x 0 12 16 (by omega) (by omega) (by omega), app_ex x 0 16 x.size (by omega) (by omega) (by omega), ex_all]
          · rw [if_neg g] at h; exact absurd h (by decide)
      · rw [if_neg e] at h; exact absurd h (by decide)
    · rw [if_neg d] at h; exact absurd h (by decide)
theorem fokB_all {y : S82} (h : fokB y = true) : (0 ≤ y.f0 ∧ y.f0 < 32768) ∧ (0 ≤ y.f1 ∧ y.f1 < 65536) ∧ (0 ≤ y.f2 ∧ y.f2 < 4294967296) := by
  unfold fokB at h
  simp only [Bool.and_eq_true, decide_eq_true_eq] at h
  exact ⟨h.1.1, h.1.2, h.2⟩
theorem trightB_all {id : Int} {t : List S82} (h : trightB id t = true) : (256 ≤ id ∧ id < 65536) ∧ (1 ≤ t.length ∧ t.length < 65) ∧ ∀ y ∈ t, fokB y = true := by
  unfold trightB at h
  simp only [Bool.and_eq_true, decide_eq_true_eq, List.all_eq_true] at h
  exact ⟨h.1.1, h.1.2, h.2⟩
theorem encF_size (y : S82) : (encF y).size ≤ 8 := by
  unfold encF
  split <;> simp only [ByteArray.size_append, beS_size] <;> omega
theorem catF_size : ∀ (l : List S82), (cat (l.map encF)).size ≤ 8 * l.length := by
  intro l
  induction l with
  | nil => exact Nat.le_refl _
  | cons y l ih => have := encF_size y; rw [List.map_cons, cat, ByteArray.size_append, List.length_cons]; omega
theorem encT_size (t : S37) (h : t.f1.length < 65) : (encT t).size ≤ 516 := by
  have := catF_size t.f1
  unfold encT
  simp only [ByteArray.size_append, beS_size]; omega
theorem catT_size : ∀ (l : List S37), (∀ t ∈ l, t.f1.length < 65) → (cat (l.map encT)).size ≤ 516 * l.length := by
  intro l
  induction l with
  | nil => intro _; exact Nat.le_refl _
  | cons t l ih =>
    intro h
    have := encT_size t (h t List.mem_cons_self)
    have := ih (fun w hw => h w (List.mem_cons_of_mem _ hw))
    rw [List.map_cons, cat, ByteArray.size_append, List.length_cons]; omega
theorem cat_snoc (l : List ByteArray) (s : ByteArray) : cat (l ++ [s]) = cat l ++ s := by
  rw [cat_app, cat, cat, app_nil]
theorem take_more82 (l : List S82) (i : Nat) (h : i < l.length) : l.take (i + 1) = l.take i ++ [rd_T82 l (i : Int)] ∧ rd_T82 l (i : Int) ∈ l := by
  refine ⟨?_, ?_⟩
  · rw [List.take_add_one, List.getElem?_eq_getElem (by omega)]
    simp [rd_T82, List.getD_eq_getElem?_getD, h]
  · unfold rd_T82
    rw [Int.toNat_natCast, List.getD_eq_getElem?_getD, List.getElem?_eq_getElem h]
    exact List.getElem_mem _
theorem take_more37 (l : List S37) (i : Nat) (h : i < l.length) : l.take (i + 1) = l.take i ++ [rd_T37 l (i : Int)] ∧ rd_T37 l (i : Int) ∈ l := by
  refine ⟨?_, ?_⟩
  · rw [List.take_add_one, List.getElem?_eq_getElem (by omega)]
    simp [rd_T37, List.getD_eq_getElem?_getD, h]
  · unfold rd_T37
    rw [Int.toNat_natCast, List.getD_eq_getElem?_getD, List.getElem?_eq_getElem h]
    exact List.getElem_mem _
theorem take_more29 (l : List S29) (i : Nat) (h : i < l.length) : l.take (i + 1) = l.take i ++ [rd_T29 l (i : Int)] ∧ rd_T29 l (i : Int) ∈ l := by
  refine ⟨?_, ?_⟩
  · rw [List.take_add_one, List.getElem?_eq_getElem (by omega)]
    simp [rd_T29, List.getD_eq_getElem?_getD, h]
  · unfold rd_T29
    rw [Int.toNat_natCast, List.getD_eq_getElem?_getD, List.getElem?_eq_getElem h]
    exact List.getElem_mem _
theorem body_l1 (l : List S37) (hl : l.length ≤ 1000000) (n : Nat) (hn : n < l.length) (fs : List S82) (hf : ∀ y ∈ fs, fokB y = true) (hfl : fs.length < 65) (acc : ByteArray) (hacc : acc.size ≤ 1000000000000) (b : Bool) {R : ByteArray}
    (h : Evt (fun k => ipfix_Set_body.l0 k l (l.length : Int) ((n + 1 : Nat) : Int) (acc ++ cat (fs.map encF)) b) R) :
    ∀ (d i : Nat), i + d = fs.length → Evt (fun k => ipfix_Set_body.l1 k l (l.length : Int) (n : Int) fs (fs.length : Int) (i : Int) (acc ++ cat ((fs.take i).map encF)) b) R := by
  intro d
  induction d with
  | zero =>
    intro i hi
    refine Evt.step h (fun k => ?_)
    simp only [ipfix_Set_body.l1]
    rw [if_neg (by omega), i64_in ((n : Int) + 1) (by omega) (by omega), List.take_of_length_le (by omega)]
    rfl
  | succ d ih =>
    intro i hi
    obtain ⟨e, hm⟩ := take_more82 fs i (by omega)
    obtain ⟨⟨p1, p2⟩, ⟨p3, p4⟩, p5, p6⟩ := fokB_all (hf _ hm)
    have hI := ih (i + 1) (by omega)
    rw [e, List.map_append, List.map_singleton, cat_snoc, ← ByteArray.append_assoc] at hI
    have hz := catF_size (fs.take i)
    rw [List.length_take] at hz
    have ei : ∀ _ : Unit, wrap64 ((i : Int) + 1) = ((i + 1 : Nat) : Int) := by intro _; rw [i64_in ((i : Int) + 1) (by omega) (by omega)]; omega
    have ew : ∀ _ : Unit, wrap64 ((rd_T82 fs (i : Int)).f0 + 32768) = (rd_T82 fs (i : Int)).f0 + 32768 := by intro _; exact i64_in _ (by omega) (by omega)
    have hs : (acc ++ cat ((fs.take i).map encF)).size ≤ 1000000000600 := by rw [ByteArray.size_append]; omega
    generalize acc ++ cat ((fs.take i).map encF) = A at hI hs ⊢
    generalize hg : rd_T82 fs (i : Int) = y at *
    obtain ⟨m2, e2⟩ := put2_spec y.f1 p3 p4
    by_cases z : y.f2 = 0
    · obtain ⟨m1, e1⟩ := put2_spec y.f0 p1 (by omega)
      obtain ⟨m3, e3⟩ := hI
      refine ⟨m1 + m2 + m3 + 1, fun k hk => ?_⟩
      obtain ⟨k, rfl⟩ : ∃ z, k = z + 1 := ⟨k - 1, by omega⟩
      have e1 := e1 k (by omega)
      have e2 := e2 k (by omega)
      have e3 := e3 k (by omega)
      simp only [encF] at e3
      rw [if_pos z] at e3
      simp only [ipfix_Set_body.l1]
      rw [if_pos (by omega), if_pos (by omega), if_pos (by omega), hg, if_pos z, e1, Option.bind_some, e2, Option.bind_some, if_pos (by simp only [beS_size]; decide)]
      simp only [strings_Builder_WriteString.f]
      rw [if_pos (by simp only [ByteArray.size_append, beS_size]; omega), Option.bind_some, ei ()]
      exact e3
    · obtain ⟨m1, e1⟩ := put2_spec (y.f0 + 32768) (by omega) (by omega)
      obtain ⟨m4, e4⟩ := put4_spec y.f2 p5 p6
      obtain ⟨m3, e3⟩ := hI
      refine ⟨m1 + m2 + m3 + m4 + 1, fun k hk => ?_⟩
      obtain ⟨k, rfl⟩ : ∃ z, k = z + 1 := ⟨k - 1, by omega⟩
      have e1 := e1 k (by omega)
      have e2 := e2 k (by omega)
      have e3 := e3 k (by omega)
      have e4 := e4 k (by omega)
      simp only [encF] at e3
      rw [if_neg z] at e3
      simp only [ipfix_Set_body.l1]
      rw [if_pos (by omega), if_pos (by omega), if_pos (by omega), hg, if_neg z, ew (), e1, Option.bind_some, e2, Option.bind_some, if_pos (by simp only [beS_size]; decide), e4, Option.bind_some, if_pos (by simp only [ByteArray.size_append, beS_size]; decide)]
      simp only [strings_Builder_WriteString.f]
      rw [if_pos (by simp only [ByteArray.size_append, beS_size]; omega), Option.bind_some, ei ()]
      exact e3
theorem body_l0 (l : List S37) (hl : l.length ≤ 1000000) (hT : ∀ t ∈ l, trightB t.f0 t.f1 = true) (acc : ByteArray) (hacc : acc.size ≤ 1000000000) (b : Bool) :
    ∀ (d i : Nat), i + d = l.length → Evt (fun k => ipfix_Set_body.l0 k l (l.length : Int) (i : Int) (acc ++ cat ((l.take i).map encT)) b) (acc ++ cat (l.map encT)) := by
  intro d
  induction d with
  | zero =>
    intro i hi
    refine Evt.step (Evt.now (f := fun _ => some _) (fun _ => rfl)) (fun k => ?_)
    simp only [ipfix_Set_body.l0]
    rw [if_neg (by omega), List.take_of_length_le (by omega)]
    rfl
  | succ d ih =>
    intro i hi
    obtain ⟨e, hm⟩ := take_more37 l i (by omega)
    obtain ⟨⟨p1, p2⟩, ⟨p3, p4⟩, p5⟩ := trightB_all (hT _ hm)
    have hI := ih (i + 1) (by omega)
    rw [e, List.map_append, List.map_singleton, cat_snoc, ← ByteArray.append_assoc] at hI
    have hz := catT_size (l.take i) (fun t ht => (trightB_all (hT t (List.mem_of_mem_take ht))).2.1.2)
    rw [List.length_take] at hz
    have hs : (acc ++ cat ((l.take i).map encT)).size ≤ 2000000000 := by rw [ByteArray.size_append]; omega
    generalize acc ++ cat ((l.take i).map encT) = A at hI hs ⊢
    generalize hg : rd_T37 l (i : Int) = t at *
    obtain ⟨m1, e1⟩ := put2_spec t.f0 (by omega) (by omega)
    obtain ⟨m2, e2⟩ := put2_spec (t.f1.length : Int) (by omega) (by omega)
    have hR : Evt (fun k => ipfix_Set_body.l0 k l (l.length : Int) ((i + 1 : Nat) : Int) ((A ++ (beS t.f0 2 ++ beS t.f1.length 2)) ++ cat (t.f1.map encF)) b) (acc ++ cat (l.map encT)) := by
      rw [ByteArray.append_assoc]; exact hI
    obtain ⟨m3, e3⟩ := body_l1 l hl i (by omega) t.f1 p5 p4 (A ++ (beS t.f0 2 ++ beS t.f1.length 2)) (by simp only [ByteArray.size_append, beS_size]; omega) b hR t.f1.length 0 (by omega)
    refine ⟨m1 + m2 + m3 + 1, fun k hk => ?_⟩
    obtain ⟨k, rfl⟩ : ∃ z, k = z + 1 := ⟨k - 1, by omega⟩
    have e1 := e1 k (by omega)
    have e2 := e2 k (by omega)
    have e3 := e3 k (by omega)
    simp only [List.take_zero, List.map_nil, cat, app_nil] at e3
    simp only [ipfix_Set_body.l0]
    rw [if_pos (by omega), if_pos (by omega), if_pos (by omega), hg, e1, Option.bind_some, e2, Option.bind_some, if_pos (by simp only [beS_size]; decide)]
    simp only [strings_Builder_WriteString.f]
    rw [if_pos (by simp only [ByteArray.size_append, beS_size]; omega), Option.bind_some]
    exact e3
theorem body_spec (id : Int) (ts : List S37) (s : ByteArray) (hl : ts.length ≤ 1000000) (hT : ∀ t ∈ ts, trightB t.f0 t.f1 = true) (hs : s.size ≤ 1000000000) : Evt (fun k => ipfix_Set_body.f k id ts s) (encB ⟨id, ts, s⟩) := by
  refine (body_l0 ts hl hT s hs false ts.length 0 (by omega)).eq (fun k => ?_)
  simp only [ipfix_Set_body.f, abi_NoEscape.f, Option.bind_some, strings_Builder_WriteString.f]
  rw [if_pos (by show 0 + s.size ≤ 140737488355328; omega), Option.bind_some, nil_app, List.take_zero, List.map_nil, cat, app_nil]
  rfl
theorem setB_all {y : S29} (h : setB y = true) : (0 ≤ y.f0 ∧ y.f0 < 65536) ∧ ∀ t ∈ y.f1, trightB t.f0 t.f1 = true := by
  unfold setB at h
  by_cases c : y.f0 = 2
  · rw [if_pos c] at h
    simp only [Bool.and_eq_true, decide_eq_true_eq, List.all_eq_true] at h
    exact ⟨by omega, h.2.2⟩
  · rw [if_neg c] at h
    simp only [Bool.and_eq_true, decide_eq_true_eq] at h
    refine ⟨by omega, fun t ht => ?_⟩
    rw [List.length_eq_zero_iff.1 h.2] at ht; cases ht
/-- what is asked of a set so that it is written -/
def fitS (y : S29) : Prop := setB y = true ∧ y.f1.length ≤ 1000000 ∧ y.f2.size ≤ 1000000000 ∧ (encB y).size + 4 < 65536
theorem encS_size (y : S29) : (encS y).size = 4 + (encB y).size := by rw [encS, ByteArray.size_append, ByteArray.size_append, beS_size, beS_size]
theorem catS_take (l : List S29) (i : Nat) : (cat ((l.take i).map encS)).size ≤ (cat (l.map encS)).size := by
  have h : cat (l.map encS) = cat ((l.take i).map encS) ++ cat ((l.drop i).map encS) := by rw [← cat_app, ← List.map_append, List.take_append_drop]
  rw [h, ByteArray.size_append]; omega
theorem mput_l0 (a b c : Int) (ha : 0 ≤ a ∧ a < 4294967296) (hb : 0 ≤ b ∧ b < 4294967296) (hc : 0 ≤ c ∧ c < 4294967296) (L l : List S29) (hl : l.length ≤ 1000000) (hf : ∀ y ∈ l, fitS y) (hz : 16 + (cat (l.map encS)).size < 65536) (bb : Bool) :
    ∀ (d i : Nat), i + d = l.length → Evt (fun k => ipfix_Put.l0 k l (l.length : Int) (i : Int) a b c L (cat ((l.take i).map encS)) bb) (encM a b c l, 0) := by
  intro d
  induction d with
  | zero =>
    intro i hi
    obtain ⟨m1, e1⟩ := oput2_spec ((16 + (cat (l.map encS)).size : Nat) : Int) (by omega) (by omega)
    obtain ⟨m2, e2⟩ := put2_spec 10 (by decide) (by decide)
    obtain ⟨m3, e3⟩ := put4_spec a ha.1 ha.2
    obtain ⟨m4, e4⟩ := put4_spec b hb.1 hb.2
    obtain ⟨m5, e5⟩ := put4_spec c hc.1 hc.2
    refine ⟨m1 + m2 + m3 + m4 + m5 + 1, fun k hk => ?_⟩
    obtain ⟨k, rfl⟩ : ∃ z, k = z + 1 := ⟨k - 1, by omega⟩
    have e1 := e1 k (by omega)
    have e2 := e2 k (by omega)
    have e3 := e3 k (by omega)
    have e4 := e4 k (by omega)
    have e5 := e5 k (by omega)
    have ew : ∀ _ : Unit, wrap64 (16 + ((cat (l.map encS)).size : Int)) = ((16 + (cat (l.map encS)).size : Nat) : Int) := by intro _; rw [i64_in _ (by omega) (by omega)]; omega
    simp only [ipfix_Put.l0, strings_Builder_Len.f, strings_Builder_String.f]
    rw [if_neg (by omega), List.take_of_length_le (by omega), Option.bind_some]
    simp only
    rw [ew (), e1, Option.bind_some, if_pos rfl, e2, Option.bind_some]
    simp only
    rw [if_pos (by simp only [beS_size]; decide), e3, Option.bind_some, if_pos (by simp only [ByteArray.size_append, beS_size]; decide), e4, Option.bind_some, if_pos (by simp only [ByteArray.size_append, beS_size]; decide), e5, Option.bind_some, if_pos (by simp only [ByteArray.size_append, beS_size]; decide), Option.bind_some]
    simp only
    rw [if_pos (by simp only [ByteArray.size_append, beS_size]; omega)]
    rfl
  | succ d ih =>
    intro i hi
    obtain ⟨e, hm⟩ := take_more29 l i (by omega)
    obtain ⟨q1, q2, q3, q4⟩ := hf _ hm
    obtain ⟨⟨p1, p2⟩, p3⟩ := setB_all q1
    have hI := ih (i + 1) (by omega)
    rw [e, List.map_append, List.map_singleton, cat_snoc] at hI
    have hs := catS_take l i
    generalize cat ((l.take i).map encS) = A at hI hs ⊢
    generalize hg : rd_T29 l (i : Int) = y at *
    obtain ⟨m1, e1⟩ := body_spec y.f0 y.f1 y.f2 q2 p3 q3
    obtain ⟨m2, e2⟩ := oput2_spec (((encB y).size + 4 : Nat) : Int) (by omega) (by omega)
    obtain ⟨m3, e3⟩ := put2_spec y.f0 p1 p2
    obtain ⟨m4, e4⟩ := hI
    refine ⟨m1 + m2 + m3 + m4 + 1, fun k hk => ?_⟩
    obtain ⟨k, rfl⟩ : ∃ z, k = z + 1 := ⟨k - 1, by omega⟩
    have e1 := e1 k (by omega)
    have e2 := e2 k (by omega)
    have e3 := e3 k (by omega)
    have e4 := e4 k (by omega)
    have ei : ∀ _ : Unit, wrap64 ((i : Int) + 1) = ((i + 1 : Nat) : Int) := by intro _; rw [i64_in ((i : Int) + 1) (by omega) (by omega)]; omega
    have ew : ∀ _ : Unit, wrap64 (((encB y).size : Int) + 4) = (((encB y).size + 4 : Nat) : Int) := by intro _; rw [i64_in _ (by omega) (by omega)]; omega
    simp only [show (⟨y.f0, y.f1, y.f2⟩ : S29) = y from rfl] at e1
    simp only [ipfix_Put.l0]
    rw [if_pos (by omega), if_pos (by omega), if_pos (by omega), hg, e1, Option.bind_some, ew (), e2, Option.bind_some]
    simp only
    rw [if_pos trivial, e3, Option.bind_some, if_pos (by simp only [beS_size]; decide), if_pos (by simp only [ByteArray.size_append, beS_size]; omega)]
    simp only [strings_Builder_WriteString.f]
    rw [if_pos (by simp only [ByteArray.size_append, beS_size]; omega), Option.bind_some, ei ()]
    exact e4
theorem mput_spec (a b c : Int) (l : List S29) (hr : rightB a b c l = true) (hl : l.length ≤ 1000000) (hb : bndS l) (hs : ∀ y ∈ l, y.f2.size ≤ 1000000000 ∧ (encB y).size + 4 < 65536) (hz : 16 + (cat (l.map encS)).size < 65536) : Evt (fun k => ipfix_Put.f k a b c l) (encM a b c l, 0) := by
  have hr' := hr
  unfold rightB at hr
  simp only [Bool.and_eq_true, decide_eq_true_eq, List.all_eq_true] at hr
  obtain ⟨p1, p2, p3, p4⟩ := hr
  refine (mput_l0 a b c p1 p2 p3 l l hl (fun y hy => ⟨p4 y hy, (hb y hy).1, (hs y hy).1, (hs y hy).2⟩) hz false l.length 0 (by omega)).eq (fun k => ?_)
  unfold ipfix_Put.f
  rw [right_spec a b c l (by omega) (fun y hy => ⟨by have := (hb y hy).1; omega, fun t ht => by have := (hb y hy).2 t ht; omega⟩), hr', Option.bind_some, if_pos rfl]
  simp only [abi_NoEscape.f, Option.bind_some]
  rfl
/-- a text stands at a place -/
def At (x : ByteArray) (a : Nat) (s : ByteArray) : Prop := a + s.size ≤ x.size ∧ x.extract a (a + s.size) = s
theorem At_app {x : ByteArray} {a : Nat} {s t : ByteArray} (h : At x a (s ++ t)) : At x a s ∧ At x (a + s.size) t := by
  obtain ⟨h1, h2⟩ := h
  rw [ByteArray.size_append] at h1 h2
  refine ⟨⟨by omega, ?_⟩, by omega, ?_⟩
  · have := ex_app_left s t
    rw [← h2, ex_ex x a (a + (s.size + t.size)) 0 s.size h1 (by omega) (by omega)] at this
    exact this
  · have := ex_app_right s t
    rw [ByteArray.size_append, ← h2, ex_ex x a (a + (s.size + t.size)) s.size (s.size + t.size) h1 (by omega) (by omega)] at this
    rw [Nat.add_assoc]
    exact this
theorem At_pre {x : ByteArray} {a n : Nat} {v : Int} (h : At x a (beS v n)) (h0 : 0 ≤ v) (h1 : v < 2 ^ (8 * n)) : pre (suf x a) n = v ∧ a + n ≤ x.size := by
  obtain ⟨h2, h3⟩ := h
  rw [beS_size] at h2 h3
  exact ⟨by rw [← pre_ex x a n h2, h3, pre_of v n h0 h1], h2⟩
theorem At_all (x : ByteArray) : At x 0 x := ⟨by omega, by rw [Nat.zero_add]; exact ex_all x⟩
theorem fieldsAt_fwd (x : ByteArray) : ∀ (fs : List S82) (a : Nat) (acc : List S82), (∀ y ∈ fs, fokB y = true) → At x a (cat (fs.map encF)) → fieldsAt x fs.length a acc = some (acc ++ fs, a + (cat (fs.map encF)).size) := by
  intro fs
  induction fs with
  | nil => intro a acc _ _; rw [List.append_nil]; rfl
  | cons y fs ih =>
    intro a acc hf h
    obtain ⟨⟨p1, p2⟩, ⟨p3, p4⟩, p5, p6⟩ := fokB_all (hf y List.mem_cons_self)
    rw [List.map_cons, cat] at h ⊢
    obtain ⟨h1, h2⟩ := At_app h
    rw [List.length_cons, fieldsAt, ByteArray.size_append]
    by_cases z : y.f2 = 0
    · have e : encF y = beS y.f0 2 ++ beS y.f1 2 := if_pos z
      have hz : (encF y).size = 4 := by rw [e, ByteArray.size_append, beS_size, beS_size]
      rw [e] at h1
      obtain ⟨h3, h4⟩ := At_app h1
      rw [beS_size] at h4
      obtain ⟨g1, _⟩ := At_pre h3 p1 (by simpa using (show y.f0 < 65536 by omega))
      obtain ⟨g2, g3⟩ := At_pre h4 p3 (by simpa using p4)
      rw [hz] at h2 ⊢
      rw [if_pos (by omega), g1, g2, if_neg (by omega), ih (a + 4) _ (fun w hw => hf w (List.mem_cons_of_mem _ hw)) h2, List.append_assoc, Nat.add_assoc]
      rw [show (⟨y.f0, y.f1, 0⟩ : S82) = y by cases y; simp only at z; subst z; rfl]
      rfl
    · have e : encF y = beS (y.f0 + 32768) 2 ++ beS y.f1 2 ++ beS y.f2 4 := if_neg z
      have hz : (encF y).size = 8 := by rw [e, ByteArray.size_append, ByteArray.size_append, beS_size, beS_size, beS_size]
      rw [e] at h1
      obtain ⟨h3, h5⟩ := At_app h1
      rw [ByteArray.size_append, beS_size, beS_size] at h5
      obtain ⟨h3, h4⟩ := At_app h3
      rw [beS_size] at h4
      obtain ⟨g1, _⟩ := At_pre h3 (by omega) (by simpa using (show y.f0 + 32768 < 65536 by omega))
      obtain ⟨g2, _⟩ := At_pre h4 p3 (by simpa using p4)
      obtain ⟨g4, g3⟩ := At_pre h5 p5 (by simpa using p6)
      rw [hz] at h2 ⊢
      rw [if_pos (by omega), g1, g2, if_pos (by omega), if_pos (by omega), show a + 4 = a + (2 + 2) from rfl, g4, if_neg z, ih (a + 8) _ (fun w hw => hf w (List.mem_cons_of_mem _ hw)) h2, List.append_assoc, Nat.add_assoc, Int.add_sub_cancel]
      rfl
theorem tempsAt_fwd (x : ByteArray) : ∀ (ts : List S37) (m a : Nat) (acc : List S37), (∀ t ∈ ts, trightB t.f0 t.f1 = true) → At x a (cat (ts.map encT)) → a + (cat (ts.map encT)).size = x.size → x.size - a < m → tempsAt x m a acc = some (acc ++ ts) := by
  intro ts
  induction ts with
  | nil =>
    intro m a acc _ _ he hm
    obtain ⟨m, rfl⟩ : ∃ z, m = z + 1 := ⟨m - 1, by omega⟩
    have he : a + 0 = x.size := he
    rw [tempsAt, if_neg (by omega), List.append_nil]
  | cons t ts ih =>
    intro m a acc ht h he hm
    obtain ⟨m, rfl⟩ : ∃ z, m = z + 1 := ⟨m - 1, by omega⟩
    obtain ⟨⟨p1, p2⟩, ⟨p3, p4⟩, p5⟩ := trightB_all (ht t List.mem_cons_self)
    rw [List.map_cons, cat] at h he
    obtain ⟨h1, h2⟩ := At_app h
    have hz : (encT t).size = 4 + (cat (t.f1.map encF)).size := by rw [encT, ByteArray.size_append, ByteArray.size_append, beS_size, beS_size]
    rw [ByteArray.size_append] at he
    rw [hz] at h2 he
    rw [encT] at h1
    obtain ⟨h3, h5⟩ := At_app h1
    rw [ByteArray.size_append, beS_size, beS_size] at h5
    obtain ⟨h3, h4⟩ := At_app h3
    rw [beS_size] at h4
    obtain ⟨g1, _⟩ := At_pre h3 (by omega) (by simpa using p2)
    obtain ⟨g2, g3⟩ := At_pre h4 (by omega) (by simpa using (show (t.f1.length : Int) < 65536 by omega))
    rw [tempsAt, if_pos (by omega), if_pos (by omega), g1, g2, Int.toNat_natCast, fieldsAt_fwd x t.f1 (a + 4) [] p5 h5]
    simp only
    rw [List.nil_append, Nat.add_assoc, ih m _ _ (fun w hw => ht w (List.mem_cons_of_mem _ hw)) h2 (by omega) (by omega), List.append_assoc]
    rfl
theorem setAt_fwd (x : ByteArray) (a : Nat) (y : S29) (hy : setB y = true) (hs : (encB y).size + 4 < 65536) (h : At x a (encS y)) : setAt x a = some (y, a + (encS y).size) := by
  have hz : (encS y).size = 4 + (encB y).size := by rw [encS, ByteArray.size_append, ByteArray.size_append, beS_size, beS_size]
  have hA := h.1
  rw [encS] at h
  obtain ⟨h3, h5⟩ := At_app h
  rw [ByteArray.size_append, beS_size, beS_size] at h5
  obtain ⟨h3, h4⟩ := At_app h3
  rw [beS_size] at h4
  obtain ⟨g2, g3⟩ := At_pre h4 (by omega) (by simpa using (show (((encB y).size + 4 : Nat) : Int) < 65536 by omega))
  have hb := h5.2
  rw [Nat.add_assoc, show 2 + 2 + (encB y).size = (encB y).size + 4 by omega] at hb
  unfold setB at hy
  unfold setAt
  rw [if_pos (by omega), g2, Int.toNat_natCast, if_pos ⟨by omega, by omega⟩, hz, Nat.add_comm 4]
  by_cases c : y.f0 = 2
  · rw [if_pos c] at hy
    simp only [Bool.and_eq_true, decide_eq_true_eq, List.all_eq_true] at hy
    obtain ⟨g1, _⟩ := At_pre h3 (by omega) (by rw [c]; decide)
    have hB : encB y = cat (y.f1.map encT) := by rw [encB, size_zero hy.1, nil_app]
    rw [g1, if_pos c, hb, tempsAt_fwd (encB y) y.f1 _ 0 [] hy.2.2 (by rw [hB]; exact At_all _) (by rw [hB]; omega) (by omega)]
    simp only
    rw [List.nil_append]
    have : y = ⟨2, y.f1, ⟨#[]⟩⟩ := by rw [← c, ← size_zero hy.1]
    rw [← this]
  · rw [if_neg c] at hy
    simp only [Bool.and_eq_true, decide_eq_true_eq] at hy
    obtain ⟨g1, _⟩ := At_pre h3 (by omega) (by simpa using hy.1.2)
    have hn : y.f1 = [] := List.length_eq_zero_iff.1 hy.2
    have hB : encB y = y.f2 := by rw [encB, hn]; exact app_nil _
    rw [g1, if_neg c, hb]
    have : y = ⟨y.f0, [], encB y⟩ := by rw [hB, ← hn]
    rw [← this]
theorem takeAt_fwd (x : ByteArray) : ∀ (l : List S29) (m a : Nat) (acc : List S29), (∀ y ∈ l, setB y = true ∧ (encB y).size + 4 < 65536) → At x a (cat (l.map encS)) → a + (cat (l.map encS)).size = x.size → x.size - a < m → takeAt x m a acc = some (acc ++ l) := by
  intro l
  induction l with
  | nil =>
    intro m a acc _ _ he hm
    obtain ⟨m, rfl⟩ : ∃ z, m = z + 1 := ⟨m - 1, by omega⟩
    have he : a + 0 = x.size := he
    rw [takeAt, if_neg (by omega), List.append_nil]
  | cons y l ih =>
    intro m a acc hy h he hm
    obtain ⟨m, rfl⟩ : ∃ z, m = z + 1 := ⟨m - 1, by omega⟩
    rw [List.map_cons, cat] at h he
    obtain ⟨h1, h2⟩ := At_app h
    have hz : (encS y).size = 4 + (encB y).size := by rw [encS, ByteArray.size_append, ByteArray.size_append, beS_size, beS_size]
    rw [ByteArray.size_append] at he
    have q := hy y List.mem_cons_self
    rw [takeAt, if_pos (by omega), setAt_fwd x a y q.1 q.2 h1]
    simp only
    rw [ih m _ _ (fun w hw => hy w (List.mem_cons_of_mem _ hw)) h2 (by omega) (by omega), List.append_assoc]
    rfl
theorem takeM_fwd (a b c : Int) (l : List S29) (hr : rightB a b c l = true) (hs : ∀ y ∈ l, (encB y).size + 4 < 65536) (hz : 16 + (cat (l.map encS)).size < 65536) : takeM (encM a b c l) = (a, b, c, l, 0) := by
  have hr' := hr
  unfold rightB at hr
  simp only [Bool.and_eq_true, decide_eq_true_eq, List.all_eq_true] at hr
  obtain ⟨⟨p1, p2⟩, ⟨p3, p4⟩, ⟨p5, p6⟩, p7⟩ := hr
  have hS : (encM a b c l).size = 16 + (cat (l.map encS)).size := by
    simp only [encM, ByteArray.size_append, beS_size]
  have h : At (encM a b c l) 0 (beS 10 2 ++ beS (16 + (cat (l.map encS)).size : Nat) 2 ++ beS a 4 ++ beS b 4 ++ beS c 4 ++ cat (l.map encS)) := At_all (encM a b c l)
  generalize encM a b c l = x at h hS ⊢
  obtain ⟨h, h6⟩ := At_app h
  obtain ⟨h, h5⟩ := At_app h
  obtain ⟨h, h4⟩ := At_app h
  obtain ⟨h, h3⟩ := At_app h
  obtain ⟨h1, h2⟩ := At_app h
  simp only [ByteArray.size_append, beS_size, Nat.zero_add, Nat.reduceAdd] at h2 h3 h4 h5 h6
  obtain ⟨g1, _⟩ := At_pre h1 (by decide) (by decide)
  obtain ⟨g2, _⟩ := At_pre h2 (by omega) (by simpa using (show ((16 + (cat (l.map encS)).size : Nat) : Int) < 65536 by omega))
  obtain ⟨g3, _⟩ := At_pre h3 p1 (by simpa using p2)
  obtain ⟨g4, _⟩ := At_pre h4 p3 (by simpa using p4)
  obtain ⟨g5, _⟩ := At_pre h5 p5 (by simpa using p6)
  unfold takeM
  rw [if_neg (by omega), if_pos g1, g2, if_pos (by omega), g3, g4, g5, takeAt_fwd x l (x.size + 1) 16 [] (fun y hy => ⟨p7 y hy, hs y hy⟩) h6 (by omega) (by omega), List.nil_append]
  unfold tookR
  simp only
  rw [if_pos hr']
def smallT (y : S29) : Bool := decide (y.f2.size ≤ 4096) && (decide (y.f1.length ≤ 10) && y.f1.all fun t => decide (t.f1.length ≤ 80))
/-- a message that is short enough -/
def smallB (l : List S29) : Bool := decide (l.length ≤ 10) && l.all smallT
theorem rsmall_l1 (a b c : Int) (L : List S93) (n : Nat) (hn : n ≤ 1000000) (ts : List S37) (hts : ts.length ≤ 1000000) {R : Bool} :
    ∀ (d i : Nat), i + d = ts.length → (if (ts.drop i).all (fun t => decide (t.f1.length ≤ 80)) = true then Evt (fun k => rillmeterref22_Small.l0 k ((n + 1 : Nat) : Int) a b c L) R else R = false) →
      Evt (fun k => rillmeterref22_Small.l1 k (n : Int) (ts.map cvT) (ts.length : Int) (i : Int) a b c L) R := by
  intro d
  induction d with
  | zero =>
    intro i hi h
    rw [List.drop_of_length_le (by omega), List.all_nil, if_pos rfl] at h
    refine Evt.step h (fun k => ?_)
    simp only [rillmeterref22_Small.l1]
    rw [if_neg (by omega), i64_in ((n : Int) + 1) (by omega) (by omega)]
    rfl
  | succ d ih =>
    intro i hi h
    rw [drop37 ts i (by omega), List.all_cons] at h
    have open_ : ∀ k, rillmeterref22_Small.l1 (k + 1) (n : Int) (ts.map cvT) (ts.length : Int) (i : Int) a b c L = (if ((rd_T37 ts (i : Int)).f1.length : Int) > 80 then some false else rillmeterref22_Small.l1 k (n : Int) (ts.map cvT) (ts.length : Int) ((i + 1 : Nat) : Int) a b c L) := by
      intro k
      simp only [rillmeterref22_Small.l1]
      rw [if_pos (by omega), if_pos (by omega), if_pos (by rw [List.length_map]; omega), rd46 ts i (by omega), i64_in ((i : Int) + 1) (by omega) (by omega), show (i : Int) + 1 = ((i + 1 : Nat) : Int) by omega]
      simp only [cvT, List.length_map]
    by_cases c1 : (rd_T37 ts (i : Int)).f1.length ≤ 80
    · rw [decide_eq_true c1, Bool.true_and] at h
      exact Evt.step (ih (i + 1) (by omega) h) (fun k => (open_ k).trans (if_neg (by omega)))
    · rw [decide_eq_false c1, Bool.false_and, if_neg (by decide)] at h
      subst h
      exact Evt.step (Evt.now (f := fun _ => some false) (fun _ => rfl)) (fun k => (open_ k).trans (if_pos (by omega)))
theorem rsmall_l0 (a b c : Int) (l : List S29) (hl : l.length ≤ 10) : ∀ (d i : Nat), i + d = l.length → Evt (fun k => rillmeterref22_Small.l0 k (i : Int) a b c (l.map cvS)) ((l.drop i).all smallT) := by
  intro d
  induction d with
  | zero =>
    intro i hi
    refine Evt.step (Evt.now (f := fun _ => some _) (fun _ => rfl)) (fun k => ?_)
    simp only [rillmeterref22_Small.l0]
    rw [if_neg (by rw [List.length_map]; omega), List.drop_of_length_le (by omega)]
    rfl
  | succ d ih =>
    intro i hi
    rw [drop29 l i (by omega), List.all_cons]
    have hI := ih (i + 1) (by omega)
    have rd := rd93 l i (by omega)
    generalize rd_T29 l (i : Int) = y at *
    generalize hA : (l.drop (i + 1)).all smallT = A at *
    have open_ : ∀ k, rillmeterref22_Small.l0 (k + 1) (i : Int) a b c (l.map cvS) = (if (y.f2.size : Int) > 4096 then rillmeterref22_Small.j1 k (i : Int) true a b c (l.map cvS) else rillmeterref22_Small.j1 k (i : Int) (decide ((y.f1.length : Int) > 10)) a b c (l.map cvS)) := by
      intro k
      simp only [rillmeterref22_Small.l0]
      rw [if_pos (by rw [List.length_map]; omega), if_pos (by omega), rd]
      simp only [cvS, List.length_map]
    have no : Evt (fun k => rillmeterref22_Small.j1 k (i : Int) true a b c (l.map cvS)) false := by
      refine Evt.step (Evt.now (f := fun _ => some false) (fun _ => rfl)) (fun k => ?_)
      simp only [rillmeterref22_Small.j1]
      rw [if_pos trivial]
    by_cases c1 : y.f2.size ≤ 4096
    · by_cases c2 : y.f1.length ≤ 10
      · have hs : smallT y = y.f1.all fun t => decide (t.f1.length ≤ 80) := by unfold smallT; rw [decide_eq_true c1, decide_eq_true c2, Bool.true_and, Bool.true_and]
        have h1 := rsmall_l1 a b c (l.map cvS) i (by omega) y.f1 (by omega) (R := smallT y && A) y.f1.length 0 (by omega) (by
          rw [hs, List.drop_zero]
          cases hz : y.f1.all fun t => decide (t.f1.length ≤ 80) with
          | true => rw [if_pos rfl, Bool.true_and]; exact hI
          | false => rw [if_neg (by decide), Bool.false_and])
        have h2 : Evt (fun k => rillmeterref22_Small.j1 k (i : Int) false a b c (l.map cvS)) (smallT y && A) := by
          refine Evt.step h1 (fun k => ?_)
          simp only [rillmeterref22_Small.j1]
          rw [if_neg (by decide), if_pos (by omega), if_pos (by rw [List.length_map]; omega), rd]
          simp only [cvS, List.length_map]
          rfl
        exact Evt.step h2 (fun k => (open_ k).trans ((if_neg (by omega)).trans (by rw [decide_eq_false (by omega)])))
      · rw [show smallT y = false by unfold smallT; rw [decide_eq_false c2, Bool.false_and, Bool.and_false], Bool.false_and]
        exact Evt.step no (fun k => (open_ k).trans ((if_neg (by omega)).trans (by rw [decide_eq_true (by omega)])))
    · rw [show smallT y = false by unfold smallT; rw [decide_eq_false c1, Bool.false_and], Bool.false_and]
      exact Evt.step no (fun k => (open_ k).trans (if_pos (by omega)))
theorem rsmall_spec (a b c : Int) (l : List S29) : Evt (fun k => rillmeterref22_Small.f k a b c (l.map cvS)) (smallB l) := by
  unfold smallB
  by_cases h : l.length ≤ 10
  · rw [decide_eq_true h, Bool.true_and]
    refine (rsmall_l0 a b c l h l.length 0 (by omega)).eq (fun k => ?_)
    unfold rillmeterref22_Small.f
    rw [if_neg (by rw [List.length_map]; omega)]
    rfl
  · rw [decide_eq_false h, Bool.false_and]
    refine Evt.eq (Evt.now (f := fun _ => some false) (fun _ => rfl)) (fun k => ?_)
    unfold rillmeterref22_Small.f
    rw [if_pos (by rw [List.length_map]; omega)]
theorem rput_l2 (x4 : ByteArray) (L : List S93) (Lz : Int) (n : Int) (TS : List S46) (Tz : Int) (m : Nat) (hm : m ≤ 1000000) (id : Int) (TS2 : List S46) (data : ByteArray) (fs : List S82) (hf : ∀ y ∈ fs, fokB y = true) (hfl : fs.length < 65) (acc : ByteArray) (hacc : acc.size ≤ 1000000000000) {R : ByteArray × Bool}
    (h : Evt (fun k => rillmeterref22_Put.l1 k x4 (acc ++ cat (fs.map encF)) L Lz n TS Tz ((m + 1 : Nat) : Int) id TS2 data) R) :
    ∀ (d i : Nat), i + d = fs.length → Evt (fun k => rillmeterref22_Put.l2 k x4 (acc ++ cat ((fs.take i).map encF)) L Lz n TS Tz (m : Int) (fs.map cvF) (fs.length : Int) (i : Int) id TS2 data) R := by
  intro d
  induction d with
  | zero =>
    intro i hi
    refine Evt.step h (fun k => ?_)
    simp only [rillmeterref22_Put.l2]
    rw [if_neg (by omega), i64_in ((m : Int) + 1) (by omega) (by omega), List.take_of_length_le (by omega)]
    rfl
  | succ d ih =>
    intro i hi
    obtain ⟨e, hmem⟩ := take_more82 fs i (by omega)
    obtain ⟨⟨p1, p2⟩, ⟨p3, p4⟩, p5, p6⟩ := fokB_all (hf _ hmem)
    have hI := ih (i + 1) (by omega)
    rw [e, List.map_append, List.map_singleton, cat_snoc, ← ByteArray.append_assoc] at hI
    have hz := catF_size (fs.take i)
    rw [List.length_take] at hz
    have rd := rd88 fs i (by omega)
    have ei : ∀ _ : Unit, wrap64 ((i : Int) + 1) = ((i + 1 : Nat) : Int) := by intro _; rw [i64_in ((i : Int) + 1) (by omega) (by omega)]; omega
    have hs : (acc ++ cat ((fs.take i).map encF)).size ≤ 1000000000600 := by rw [ByteArray.size_append]; omega
    generalize acc ++ cat ((fs.take i).map encF) = A at hI hs ⊢
    generalize rd_T82 fs (i : Int) = y at *
    have ew : ∀ _ : Unit, wrap64 ((cvF y).f0 + 32768) = y.f0 + 32768 := by intro _; exact i64_in (y.f0 + 32768) (by omega) (by omega)
    obtain ⟨m2, e2⟩ := rn2_spec y.f1 p3 p4
    by_cases z : y.f2 = 0
    · obtain ⟨m1, e1⟩ := rn2_spec y.f0 p1 (by omega)
      obtain ⟨m3, e3⟩ := hI
      refine ⟨m1 + m2 + m3 + 1, fun k hk => ?_⟩
      obtain ⟨k, rfl⟩ : ∃ z, k = z + 1 := ⟨k - 1, by omega⟩
      have e1 := e1 k (by omega)
      have e2 := e2 k (by omega)
      have e3 := e3 k (by omega)
      simp only [encF] at e1 e2 e3
      rw [if_pos z, ← ByteArray.append_assoc] at e3
      have e1 : rillmeterref22_num.f k (cvF y).f0 2 = some (beS y.f0 2) := e1
      have e2 : rillmeterref22_num.f k (cvF y).f1 2 = some (beS y.f1 2) := e2
      simp only [rillmeterref22_Put.l2]
      rw [if_pos (by omega), if_pos (by omega), if_pos (by rw [List.length_map]; omega), rd, if_pos (show (cvF y).f2 = 0 from z), e1, Option.bind_some, if_pos (by simp only [beS_size]; omega), e2, Option.bind_some, if_pos (by simp only [ByteArray.size_append, beS_size]; omega), ei ()]
      exact e3
    · obtain ⟨m1, e1⟩ := rn2_spec (y.f0 + 32768) (by omega) (by omega)
      obtain ⟨m4, e4⟩ := rn4_spec y.f2 p5 p6
      obtain ⟨m3, e3⟩ := hI
      refine ⟨m1 + m2 + m3 + m4 + 1, fun k hk => ?_⟩
      obtain ⟨k, rfl⟩ : ∃ z, k = z + 1 := ⟨k - 1, by omega⟩
      have e1 := e1 k (by omega)
      have e2 := e2 k (by omega)
      have e3 := e3 k (by omega)
      have e4 := e4 k (by omega)
      simp only [encF] at e1 e2 e3 e4
      rw [if_neg z, ← ByteArray.append_assoc, ← ByteArray.append_assoc] at e3
      have e2 : rillmeterref22_num.f k (cvF y).f1 2 = some (beS y.f1 2) := e2
      have e4 : rillmeterref22_num.f k (cvF y).f2 4 = some (beS y.f2 4) := e4
      simp only [rillmeterref22_Put.l2]
      rw [if_pos (by omega), if_pos (by omega), if_pos (by rw [List.length_map]; omega), rd, if_neg (show ¬ (cvF y).f2 = 0 from z), ew (), e1, Option.bind_some, if_pos (by simp only [beS_size]; omega), e2, Option.bind_some, if_pos (by simp only [ByteArray.size_append, beS_size]; omega), e4, Option.bind_some, if_pos (by simp only [ByteArray.size_append, beS_size]; omega), ei ()]
      exact e3
theorem rput_l1 (x4 : ByteArray) (hx4 : x4.size ≤ 1000000) (L : List S93) (Lz : Int) (n : Nat) (hn : n ≤ 1000000) (id : Int) (hid : 0 ≤ id ∧ id < 65536) (data : ByteArray) (hdata : data.size ≤ 1000000000) (ts : List S37) (hts : ts.length ≤ 1000000) (hT : ∀ t ∈ ts, trightB t.f0 t.f1 = true) (hB : (data ++ cat (ts.map encT)).size + 4 < 65536) {R : ByteArray × Bool}
    (h : Evt (fun k => rillmeterref22_Put.l0 k (x4 ++ encS ⟨id, ts, data⟩) L Lz ((n + 1 : Nat) : Int)) R) :
    ∀ (d i : Nat), i + d = ts.length → Evt (fun k => rillmeterref22_Put.l1 k x4 (data ++ cat ((ts.take i).map encT)) L Lz (n : Int) (ts.map cvT) (ts.length : Int) (i : Int) id (ts.map cvT) data) R := by
  intro d
  induction d with
  | zero =>
    intro i hi
    obtain ⟨m1, e1⟩ := rn2_spec id hid.1 hid.2
    obtain ⟨m2, e2⟩ := rn2_spec (((data ++ cat (ts.map encT)).size + 4 : Nat) : Int) (by omega) (by omega)
    obtain ⟨m3, e3⟩ := h
    refine ⟨m1 + m2 + m3 + 1, fun k hk => ?_⟩
    obtain ⟨k, rfl⟩ : ∃ z, k = z + 1 := ⟨k - 1, by omega⟩
    have e1 := e1 k (by omega)
    have e2 := e2 k (by omega)
    have e3 := e3 k (by omega)
    simp only [encS, encB] at e1 e2 e3
    generalize hD : data ++ cat (ts.map encT) = D at *
    rw [← ByteArray.append_assoc, ← ByteArray.append_assoc] at e3
    have ew : ∀ _ : Unit, wrap64 (4 + (D.size : Int)) = ((D.size + 4 : Nat) : Int) := by intro _; rw [i64_in _ (by omega) (by omega)]; omega
    have ei : ∀ _ : Unit, wrap64 ((n : Int) + 1) = ((n + 1 : Nat) : Int) := by intro _; rw [i64_in ((n : Int) + 1) (by omega) (by omega)]; omega
    simp only [rillmeterref22_Put.l1]
    rw [if_neg (by omega), List.take_of_length_le (by omega), hD, if_neg (by omega), e1, Option.bind_some, if_pos (by simp only [beS_size]; omega), ew (), e2, Option.bind_some, if_pos (by simp only [ByteArray.size_append, beS_size]; omega), if_pos (by simp only [ByteArray.size_append, beS_size]; omega), ei ()]
    exact e3
  | succ d ih =>
    intro i hi
    obtain ⟨e, hm⟩ := take_more37 ts i (by omega)
    obtain ⟨⟨p1, p2⟩, ⟨p3, p4⟩, p5⟩ := trightB_all (hT _ hm)
    have hI := ih (i + 1) (by omega)
    rw [e, List.map_append, List.map_singleton, cat_snoc, ← ByteArray.append_assoc] at hI
    have hz := catT_size (ts.take i) (fun t ht => (trightB_all (hT t (List.mem_of_mem_take ht))).2.1.2)
    rw [List.length_take] at hz
    have rd := rd46 ts i (by omega)
    have hs : (data ++ cat ((ts.take i).map encT)).size ≤ 2000000000 := by rw [ByteArray.size_append]; omega
    generalize data ++ cat ((ts.take i).map encT) = A at hI hs ⊢
    generalize rd_T37 ts (i : Int) = t at *
    obtain ⟨m1, e1⟩ := rn2_spec t.f0 (by omega) (by omega)
    obtain ⟨m2, e2⟩ := rn2_spec (t.f1.length : Int) (by omega) (by omega)
    have hR : Evt (fun k => rillmeterref22_Put.l1 k x4 ((A ++ (beS t.f0 2 ++ beS t.f1.length 2)) ++ cat (t.f1.map encF)) L Lz (n : Int) (ts.map cvT) (ts.length : Int) ((i + 1 : Nat) : Int) id (ts.map cvT) data) R := by
      rw [ByteArray.append_assoc]; exact hI
    obtain ⟨m3, e3⟩ := rput_l2 x4 L Lz (n : Int) (ts.map cvT) (ts.length : Int) i (by omega) id (ts.map cvT) data t.f1 p5 p4 (A ++ (beS t.f0 2 ++ beS t.f1.length 2)) (by simp only [ByteArray.size_append, beS_size]; omega) hR t.f1.length 0 (by omega)
    refine ⟨m1 + m2 + m3 + 1, fun k hk => ?_⟩
    obtain ⟨k, rfl⟩ : ∃ z, k = z + 1 := ⟨k - 1, by omega⟩
    have e1 := e1 k (by omega)
    have e2 := e2 k (by omega)
    have e3 := e3 k (by omega)
    simp only [List.take_zero, List.map_nil, cat, app_nil] at e1 e2 e3
    rw [← ByteArray.append_assoc] at e3
    simp only [rillmeterref22_Put.l1]
    rw [if_pos (by omega), if_pos (by omega), if_pos (by rw [List.length_map]; omega), rd]
    simp only [cvT, List.length_map]
    rw [e1, Option.bind_some, if_pos (by simp only [beS_size]; omega), e2, Option.bind_some, if_pos (by simp only [ByteArray.size_append, beS_size]; omega)]
    exact e3
theorem rmput_l0 (l : List S29) (hl : l.length ≤ 1000000) (hf : ∀ y ∈ l, fitS y) (H : ByteArray) (hH : H.size = 12) (hz : 16 + (cat (l.map encS)).size < 65536) :
    ∀ (d i : Nat), i + d = l.length → Evt (fun k => rillmeterref22_Put.l0 k (H ++ cat ((l.take i).map encS)) (l.map cvS) (l.length : Int) (i : Int)) (beS 10 2 ++ beS (16 + (cat (l.map encS)).size : Nat) 2 ++ (H ++ cat (l.map encS)), true) := by
  intro d
  induction d with
  | zero =>
    intro i hi
    obtain ⟨m1, e1⟩ := rn2_spec ((16 + (cat (l.map encS)).size : Nat) : Int) (by omega) (by omega)
    obtain ⟨m2, e2⟩ := rn2_spec 10 (by decide) (by decide)
    refine ⟨m1 + m2 + 1, fun k hk => ?_⟩
    obtain ⟨k, rfl⟩ : ∃ z, k = z + 1 := ⟨k - 1, by omega⟩
    have e1 := e1 k (by omega)
    have e2 := e2 k (by omega)
    have ew : ∀ _ : Unit, wrap64 (4 + ((H ++ cat (l.map encS)).size : Int)) = ((16 + (cat (l.map encS)).size : Nat) : Int) := by intro _; rw [ByteArray.size_append, i64_in _ (by omega) (by omega)]; omega
    simp only at e1 e2
    simp only [rillmeterref22_Put.l0]
    rw [if_neg (by omega), List.take_of_length_le (by omega), if_neg (by rw [ByteArray.size_append]; omega), e2, Option.bind_some, ew (), e1, Option.bind_some, if_pos (by simp only [beS_size]; decide), if_pos (by simp only [ByteArray.size_append, beS_size]; omega)]
  | succ d ih =>
    intro i hi
    obtain ⟨e, hm⟩ := take_more29 l i (by omega)
    obtain ⟨q1, q2, q3, q4⟩ := hf _ hm
    obtain ⟨p1, p3⟩ := setB_all q1
    have hI := ih (i + 1) (by omega)
    rw [e, List.map_append, List.map_singleton, cat_snoc, ← ByteArray.append_assoc] at hI
    have hs := catS_take l i
    have rd := rd93 l i (by omega)
    have hs2 : (H ++ cat ((l.take i).map encS)).size ≤ 1000000 := by rw [ByteArray.size_append]; omega
    generalize H ++ cat ((l.take i).map encS) = A at hI hs2 ⊢
    generalize rd_T29 l (i : Int) = y at *
    refine Evt.step (rput_l1 A hs2 (l.map cvS) (l.length : Int) i (by omega) y.f0 p1 y.f2 q3 y.f1 q2 p3 q4 hI y.f1.length 0 (by omega)) (fun k => ?_)
    simp only [rillmeterref22_Put.l0]
    rw [if_pos (by omega), if_pos (by omega), if_pos (by rw [List.length_map]; omega), rd]
    simp only [cvS, List.length_map, List.take_zero, List.map_nil, cat, app_nil]
    rfl
theorem rmput_spec (a b c : Int) (l : List S29) (hr : rightB a b c l = true) (hl : l.length ≤ 1000000) (hb : bndS l) (hs : ∀ y ∈ l, y.f2.size ≤ 1000000000 ∧ (encB y).size + 4 < 65536) (hz : 16 + (cat (l.map encS)).size < 65536) : Evt (fun k => rillmeterref22_Put.f k a b c (l.map cvS)) (encM a b c l, true) := by
  unfold rightB at hr
  simp only [Bool.and_eq_true, decide_eq_true_eq, List.all_eq_true] at hr
  obtain ⟨p1, p2, p3, p4⟩ := hr
  obtain ⟨m1, e1⟩ := rn4_spec a p1.1 p1.2
  obtain ⟨m2, e2⟩ := rn4_spec b p2.1 p2.2
  obtain ⟨m3, e3⟩ := rn4_spec c p3.1 p3.2
  have hE : encM a b c l = beS 10 2 ++ beS (16 + (cat (l.map encS)).size : Nat) 2 ++ (beS a 4 ++ beS b 4 ++ beS c 4 ++ cat (l.map encS)) := by
    simp only [encM, ByteArray.append_assoc]
  obtain ⟨m4, e4⟩ := rmput_l0 l hl (fun y hy => ⟨p4 y hy, (hb y hy).1, (hs y hy).1, (hs y hy).2⟩) (beS a 4 ++ beS b 4 ++ beS c 4) (by simp only [ByteArray.size_append, beS_size]) hz l.length 0 (by omega)
  refine ⟨m1 + m2 + m3 + m4, fun k hk => ?_⟩
  have e1 := e1 k (by omega)
  have e2 := e2 k (by omega)
  have e3 := e3 k (by omega)
  have e4 := e4 k (by omega)
  simp only [List.take_zero, List.map_nil, cat, app_nil] at e1 e2 e3 e4
  simp only [rillmeterref22_Put.f]
  rw [e1, Option.bind_some, e2, Option.bind_some, if_pos (by simp only [beS_size]; decide), e3, Option.bind_some, if_pos (by simp only [ByteArray.size_append, beS_size]; decide), List.length_map, hE]
  exact e4
theorem smallB_bnd {l : List S29} (h : smallB l = true) : l.length ≤ 10 ∧ ∀ y ∈ l, y.f2.size ≤ 4096 ∧ y.f1.length ≤ 10 ∧ ∀ t ∈ y.f1, t.f1.length ≤ 80 := by
  unfold smallB at h
  simp only [Bool.and_eq_true, decide_eq_true_eq, List.all_eq_true] at h
  refine ⟨h.1, fun y hy => ?_⟩
  have := h.2 y hy
  unfold smallT at this
  simp only [Bool.and_eq_true, decide_eq_true_eq, List.all_eq_true] at this
  exact this
theorem encB_size (y : S29) (h : setB y = true) (h1 : y.f2.size ≤ 4096) (h2 : y.f1.length ≤ 10) : (encB y).size ≤ 5160 := by
  have hT := setB_all h
  have hz := catT_size y.f1 (fun t ht => (trightB_all (hT.2 t ht)).2.1.2)
  unfold setB at h
  rw [encB, ByteArray.size_append]
  by_cases c : y.f0 = 2
  · rw [if_pos c] at h
    simp only [Bool.and_eq_true, decide_eq_true_eq, List.all_eq_true] at h
    omega
  · rw [if_neg c] at h
    simp only [Bool.and_eq_true, decide_eq_true_eq] at h
    rw [h.2] at hz
    omega
theorem catS_size : ∀ (l : List S29), (∀ y ∈ l, (encB y).size ≤ 5160) → (cat (l.map encS)).size ≤ 5164 * l.length := by
  intro l
  induction l with
  | nil => intro _; exact Nat.le_refl _
  | cons y l ih =>
    intro h
    have := h y List.mem_cons_self
    have := ih (fun w hw => h w (List.mem_cons_of_mem _ hw))
    rw [List.map_cons, cat, ByteArray.size_append, encS_size, List.length_cons]; omega
theorem IpfixPuts : rillmeterlaw22_IpfixPuts.Pure := by
  intro a b c l _ _ _ hw
  have hW : bndW l := by
    intro y hy
    have h1 := hw.2 y hy
    refine ⟨by have := h1.2.1.1; omega, fun t ht => ?_⟩
    have h2 := (h1.2.1.2 t ht).2.1
    omega
  have hL : l.length ≤ 2932031007317 := by have := hw.1; omega
  clear hw
  obtain ⟨m0, e0⟩ := awake_spec
  obtain ⟨m1, e1⟩ := lref_wide l hL hW a b c
  obtain ⟨m2, e2⟩ := rsmall_spec a b c l
  cases hS : smallB l with
  | false =>
    rw [hS] at e2
    refine ⟨m0 + m1 + m2, ?_⟩
    have e0 := e0 (m0 + m1 + m2) (by omega)
    have e1 := e1 (m0 + m1 + m2) (by omega)
    have e2 := e2 (m0 + m1 + m2) (by omega)
    simp only at e1 e2
    unfold rillmeterlaw22_IpfixPuts.f
    rw [e1, Option.bind_some]
    simp only
    rw [e2, Option.bind_some, if_neg (by decide), e0]
    rfl
  | true =>
    rw [hS] at e2
    obtain ⟨s1, s2⟩ := smallB_bnd hS
    have hb : bndS l := fun y hy => ⟨by have := (s2 y hy).2.1; omega, fun t ht => by have := (s2 y hy).2.2 t ht; omega⟩
    obtain ⟨m3, e3⟩ := rright_spec a b c l (by omega) hb
    have e4 := right_spec a b c l (by omega) (fun y hy => ⟨by have := (s2 y hy).2.1; omega, fun t ht => by have := (s2 y hy).2.2 t ht; omega⟩)
    cases hr : rightB a b c l with
    | false =>
      rw [hr] at e3 e4
      refine ⟨m0 + m1 + m2 + m3, ?_⟩
      have e0 := e0 (m0 + m1 + m2 + m3) (by omega)
      have e1 := e1 (m0 + m1 + m2 + m3) (by omega)
      have e2 := e2 (m0 + m1 + m2 + m3) (by omega)
      have e3 := e3 (m0 + m1 + m2 + m3) (by omega)
      have e5 : ipfix_Put.f (m0 + m1 + m2 + m3) a b c l = some (⟨#[]⟩, 1) := by
        unfold ipfix_Put.f
        rw [e4, Option.bind_some, if_neg (by decide)]
      simp only at e1 e2 e3
      unfold rillmeterlaw22_IpfixPuts.f
      rw [e1, Option.bind_some]
      simp only
      rw [e2, Option.bind_some, if_pos rfl, e5, Option.bind_some, e3, Option.bind_some, e4, Option.bind_some, if_neg (by decide), if_neg (by decide), if_pos ((toList_nil_iff _).2 rfl), if_pos rfl, e0]
      rfl
    | true =>
      rw [hr] at e3 e4
      have p4 : ∀ y ∈ l, setB y = true := by
        have hr2 := hr
        unfold rightB at hr2
        simp only [Bool.and_eq_true, decide_eq_true_eq, List.all_eq_true] at hr2
        exact hr2.2.2.2
      have hB : ∀ y ∈ l, (encB y).size ≤ 5160 := fun y hy => encB_size y (p4 y hy) (s2 y hy).1 (s2 y hy).2.1
      have hz := catS_size l hB
      have hs : ∀ y ∈ l, y.f2.size ≤ 1000000000 ∧ (encB y).size + 4 < 65536 := fun y hy => ⟨by have := (s2 y hy).1; omega, by have := hB y hy; omega⟩
      obtain ⟨m5, e5⟩ := mput_spec a b c l hr (by omega) hb hs (by omega)
      obtain ⟨m6, e6⟩ := rmput_spec a b c l hr (by omega) hb hs (by omega)
      have hM : (encM a b c l).size ≤ 1000000 := by simp only [encM, ByteArray.size_append, beS_size]; omega
      obtain ⟨m7, e7⟩ := take_spec_m (encM a b c l) hM
      rw [takeM_fwd a b c l hr (fun y hy => (hs y hy).2) (by omega)] at e7
      obtain ⟨m8, e8⟩ := equal_spec a b c (l.map cvS) (by rw [List.length_map]; omega) (fun y hy => by
        obtain ⟨z, hz, rfl⟩ := List.mem_map.1 hy
        refine ⟨by show (z.f1.map cvT).length ≤ _; rw [List.length_map]; exact (hb z hz).1, fun t ht => ?_⟩
        obtain ⟨u, hu, rfl⟩ := List.mem_map.1 ht
        show (u.f1.map cvF).length ≤ _
        rw [List.length_map]; exact (hb z hz).2 u hu)
      clear hW hB hz hs hM
      refine ⟨m0 + m1 + m2 + m3 + m5 + m6 + m7 + m8, ?_⟩
      have e0 := e0 (m0 + m1 + m2 + m3 + m5 + m6 + m7 + m8) (by omega)
      have e1 := e1 (m0 + m1 + m2 + m3 + m5 + m6 + m7 + m8) (by omega)
      have e2 := e2 (m0 + m1 + m2 + m3 + m5 + m6 + m7 + m8) (by omega)
      have e3 := e3 (m0 + m1 + m2 + m3 + m5 + m6 + m7 + m8) (by omega)
      have e5 := e5 (m0 + m1 + m2 + m3 + m5 + m6 + m7 + m8) (by omega)
      have e6 := e6 (m0 + m1 + m2 + m3 + m5 + m6 + m7 + m8) (by omega)
      have e7 := e7 (m0 + m1 + m2 + m3 + m5 + m6 + m7 + m8) (by omega)
      have e8 := e8 (m0 + m1 + m2 + m3 + m5 + m6 + m7 + m8) (by omega)
      simp only at e1 e2 e3 e5 e6 e7 e8
      unfold rillmeterlaw22_IpfixPuts.f
      rw [e1, Option.bind_some]
      simp only
      rw [e2, Option.bind_some, if_pos rfl, e5, Option.bind_some, e3, Option.bind_some, e4, Option.bind_some, if_neg (by decide), if_pos rfl, e6, Option.bind_some]
      simp only
      rw [e7, Option.bind_some, if_pos trivial, if_pos trivial]
      simp only
      rw [e1, Option.bind_some]
      simp only
      rw [e8, Option.bind_some, if_pos rfl, if_pos trivial, e0]
      rfl

end Go.Proofs.Ytojmpdjbhplgkaa.Pure
