/- A record of texts by a template is written as the document says, or refused; any data are read as the document says, or refused; what is written twice is read back as two records of the same texts. No condition beyond the kinds of the arguments. -/
import Derived.Test.YtojmpdjbhplgkaaPIpfixRecordsy
import Derived.Test.YtojmpdjbhplgkaaBits
import Derived.Test.YtojmpdjbhplgkaaOcts
import Derived.Test.YtojmpdjbhplgkaaEvs
namespace Go.Proofs.Ytojmpdjbhplgkaa.Pure
open Go.RowKit Go.Proofs.Ytojmpdjbhplgkaa.PIpfixRecords Go.Proofs.YtojmpdjbhplgkaaW.PrintWords Go.Proofs.YtojmpdjbhplgkaaW.PrintLast Go.Proofs.Ytojmpdjbhplgkaa.Bits Go.Proofs.Ytojmpdjbhplgkaa.Octs Go.Proofs.Ytojmpdjbhplgkaa.Evs
set_option linter.unusedSimpArgs false
set_option linter.unusedVariables false

theorem within_some (n a b : Int) : ∃ t, ipfix_within.f n a b = some t := by
  unfold ipfix_within.f
  by_cases h : n ≥ a
  · exact ⟨_, if_pos h⟩
  · exact ⟨_, if_neg h⟩
theorem wrong_some (a b c : Int) : ∃ t, ipfix_wrong.f a b c = some t := by
  unfold ipfix_wrong.f
  obtain ⟨t1, h1⟩ := within_some a 0 32768
  obtain ⟨t2, h2⟩ := within_some b 0 65536
  obtain ⟨t3, h3⟩ := within_some c 0 4294967296
  rw [h1, h2, h3]
  cases t1 <;> cases t2 <;> exact ⟨_, rfl⟩
theorem field_any (l : List S82) : ∃ t, ipfix_Field_48.any l = some t := by
  induction l with
  | nil => exact ⟨_, rfl⟩
  | cons y l ih =>
    obtain ⟨t, ht⟩ := ih
    obtain ⟨u, hu⟩ := wrong_some y.f0 y.f1 y.f2
    rw [ipfix_Field_48.any, List.foldr_cons, ← ipfix_Field_48.any, ht, ipfix_Field_48.g, hu, Option.bind_some]
    cases u <;> exact ⟨_, rfl⟩
theorem tright_some (id : Int) (l : List S82) (h : l.length ≤ 9223372036854775807) : ∃ t, ipfix_Template_right.f id l = some t := by
  unfold ipfix_Template_right.f
  obtain ⟨t1, h1⟩ := within_some id 256 65536
  obtain ⟨t2, h2⟩ := within_some (l.length : Int) 1 65
  obtain ⟨t3, h3⟩ := field_any l
  rw [h1, h2, ipfix_Field_48.f, if_pos h, h3]
  cases t1 <;> cases t2 <;> exact ⟨_, rfl⟩

def fokB (y : S82) : Bool := decide (0 ≤ y.f0 ∧ y.f0 < 32768) && decide (0 ≤ y.f1 ∧ y.f1 < 65536) && decide (0 ≤ y.f2 ∧ y.f2 < 4294967296)
def trightB (id : Int) (t : List S82) : Bool := decide (256 ≤ id ∧ id < 65536) && decide (1 ≤ t.length ∧ t.length < 65) && t.all fokB
theorem within_spec (n a b : Int) : ipfix_within.f n a b = some (decide (a ≤ n ∧ n < b)) := by
  unfold ipfix_within.f
  by_cases h : n ≥ a
  · rw [if_pos h]; congr 1; exact decide_eq_decide.2 ⟨fun g => ⟨h, g⟩, fun g => g.2⟩
  · rw [if_neg h]; congr 1; exact (decide_eq_false (fun g => h g.1)).symm
theorem wrong_spec (y : S82) : ipfix_wrong.f y.f0 y.f1 y.f2 = some (!fokB y) := by
  unfold ipfix_wrong.f fokB
  rw [within_spec, within_spec, within_spec]
  simp only [Option.bind_some]
  cases decide (0 ≤ y.f0 ∧ y.f0 < 32768) <;> cases decide (0 ≤ y.f1 ∧ y.f1 < 65536) <;> cases decide (0 ≤ y.f2 ∧ y.f2 < 4294967296) <;> rfl
theorem field_any_spec (l : List S82) : ipfix_Field_48.any l = some (!l.all fokB) := by
  induction l with
  | nil => rfl
  | cons y l ih =>
    rw [ipfix_Field_48.any, List.foldr_cons, ← ipfix_Field_48.any, ih, ipfix_Field_48.g, wrong_spec, Option.bind_some, List.all_cons]
    cases fokB y <;> rfl
theorem tright_spec (id : Int) (t : List S82) (h : t.length ≤ 9223372036854775807) : ipfix_Template_right.f id t = some (trightB id t) := by
  unfold ipfix_Template_right.f trightB
  rw [within_spec, within_spec, ipfix_Field_48.f, if_pos h, field_any_spec, show decide ((1 : Int) ≤ (t.length : Int) ∧ (t.length : Int) < 65) = decide (1 ≤ t.length ∧ t.length < 65) from decide_eq_decide.2 (by omega)]
  simp only [Option.bind_some, Bool.not_not]
  cases decide (256 ≤ id ∧ id < 65536) <;> cases decide (1 ≤ t.length ∧ t.length < 65) <;> cases t.all fokB <;> rfl
theorem trightB_fok {id : Int} {t : List S82} (h : trightB id t = true) : (1 ≤ t.length ∧ t.length < 65) ∧ ∀ y ∈ t, fokB y = true := by
  unfold trightB at h
  simp only [Bool.and_eq_true, decide_eq_true_eq, List.all_eq_true] at h
  exact ⟨h.1.2, h.2⟩
theorem fokB_f1 {y : S82} (h : fokB y = true) : 0 ≤ y.f1 ∧ y.f1 < 65536 := by
  unfold fokB at h
  simp only [Bool.and_eq_true, decide_eq_true_eq] at h
  exact h.1.2

theorem beB_swp (n : Int) (b : Nat) : swp (fun j _ => n / 2 ^ (8 * (b - 1 - j)) % 256) b (List.replicate b (0 : Int)) = beB n b := by
  rw [swp_all _ _ _ (by simp)]
  apply List.ext_getElem?
  intro j
  rw [List.getElem?_mapIdx]
  by_cases h : j < b
  · simp [beB, h]
  · simp [beB, h]

theorem oput_l0 (n : Int) (b : Nat) (hb : b ≤ 7) : ∀ (d i : Nat), b - i = d → i ≤ b → Evt (fun k => octet_Put.l0 k n (b : Int) (swp (fun j _ => n / 2 ^ (8 * (b - 1 - j)) % 256) i (List.replicate b 0)) (b : Int) (i : Int)) (beS n b, 0) := by
  intro d
  induction d with
  | zero =>
    intro i h0 hi
    have e : i = b := by omega
    subst e
    refine Evt.step (Evt.now (f := fun _ => some (beS n i, (0 : Int))) (fun _ => rfl)) (fun k => ?_)
    simp only [octet_Put.l0]
    rw [if_neg (by omega), beB_swp]
    rfl
  | succ d ih =>
    intro i h0 hi
    refine Evt.step (ih (i + 1) (by omega) (by omega)) (fun k => ?_)
    simp only [octet_Put.l0]
    have hx : (List.replicate b (0 : Int))[i]? = some 0 := by rw [List.getElem?_replicate, if_pos (by omega)]
    have e : wrap64 (8 * wrap64 (wrap64 ((b : Int) - 1) - (i : Int))) = ((8 * (b - 1 - i) : Nat) : Int) := by
      rw [i64_in ((b : Int) - 1) (by omega) (by omega), i64_in ((b : Int) - 1 - (i : Int)) (by omega) (by omega), i64_in _ (by omega) (by omega)]
      omega
    have e2 : shr .i64 n ((8 * (b - 1 - i) : Nat) : Int) = n / 2 ^ (8 * (b - 1 - i)) := by
      unfold shr
      rw [Int.toNat_natCast, Nat.min_eq_left (show 8 * (b - 1 - i) ≤ IntKind.i64.bits by show _ ≤ 64; omega)]
    rw [e, e2, if_pos (by omega), if_pos (by omega), if_pos (by omega), if_pos (by rw [swp_length, List.length_replicate]; omega), i64_in ((i : Int) + 1) (by omega) (by omega), Int.toNat_natCast, show (i : Int) + 1 = ((i + 1 : Nat) : Int) by omega, ← swp_set (fun j _ => n / 2 ^ (8 * (b - 1 - j)) % 256) i (List.replicate b (0 : Int)) 0 hx]

theorem oput_spec (n : Int) (b : Nat) (h1 : 1 ≤ b) (h7 : b ≤ 7) (h0 : 0 ≤ n) (hn : n < 2 ^ (8 * b)) : Evt (fun k => octet_Put.f k n (b : Int)) (beS n b, 0) := by
  have e2 : (shr .i64 n ((8 * b : Nat) : Int) != 0) = false := by
    unfold shr
    rw [Int.toNat_natCast, Nat.min_eq_left (show 8 * b ≤ IntKind.i64.bits by show _ ≤ 64; omega), Int.ediv_eq_zero_of_lt h0 hn]
    rfl
  have e : wrap64 (8 * (b : Int)) = ((8 * b : Nat) : Int) := by rw [i64_in _ (by omega) (by omega)]; omega
  have hA := oput_l0 n b h7 b 0 (by omega) (by omega)
  rw [swp_zero] at hA
  have hj : Evt (fun k => octet_Put.j0 k n (b : Int) false) (beS n b, 0) := by
    refine Evt.step hA (fun k => ?_)
    simp only [octet_Put.j0]
    rw [if_neg (by decide), if_pos (by omega), if_pos (by omega)]
    simp only [Option.bind_some, Int.toNat_natCast, List.length_replicate]
    rfl
  refine hj.eq (fun k => ?_)
  simp only [octet_Put.f]
  rw [if_neg (by omega), if_neg (by omega), if_neg (by omega), e, if_pos (by omega), e2]

theorem oput_long (n : Int) (b : Nat) (h1 : 1 ≤ b) (h7 : b ≤ 7) (h0 : 0 ≤ n) (hn : 2 ^ (8 * b) ≤ n) : Evt (fun k => octet_Put.f k n (b : Int)) (⟨#[]⟩, 1) := by
  have e2 : (shr .i64 n ((8 * b : Nat) : Int) != 0) = true := by
    unfold shr
    rw [Int.toNat_natCast, Nat.min_eq_left (show 8 * b ≤ IntKind.i64.bits by show _ ≤ 64; omega)]
    have hp : (0 : Int) < 2 ^ (8 * b) := Int.pow_pos (by decide)
    have : 1 ≤ n / 2 ^ (8 * b) := (Int.le_ediv_iff_mul_le hp).2 (by omega)
    exact bne_iff_ne.2 (by omega)
  have e : wrap64 (8 * (b : Int)) = ((8 * b : Nat) : Int) := by rw [i64_in _ (by omega) (by omega)]; omega
  have hj : Evt (fun k => octet_Put.j0 k n (b : Int) true) (⟨#[]⟩, 1) := by
    refine Evt.step (Evt.now (f := fun _ => some ((⟨#[]⟩ : ByteArray), (1 : Int))) (fun _ => rfl)) (fun k => ?_)
    simp only [octet_Put.j0]
    rw [if_pos trivial]
  refine hj.eq (fun k => ?_)
  simp only [octet_Put.f]
  rw [if_neg (by omega), if_neg (by omega), if_neg (by omega), e, if_pos (by omega), e2]

theorem put_spec (n : Int) (b : Nat) (h1 : 1 ≤ b) (h7 : b ≤ 7) (h0 : 0 ≤ n) (hn : n < 2 ^ (8 * b)) : Evt (fun k => ipfix_put.f k n (b : Int)) (beS n b) :=
  (Evt.bind (f := fun k => octet_Put.f k n (b : Int)) (g := fun _ (bt : ByteArray × Int) => some bt.1) (oput_spec n b h1 h7 h0 hn) (Evt.now fun _ => rfl)).eq (fun k => rfl)
theorem put2_spec (n : Int) (h0 : 0 ≤ n) (hn : n < 65536) : ∃ m, ∀ k, m ≤ k → ipfix_put.f k n 2 = some (beS n 2) := put_spec n 2 (by decide) (by decide) h0 (by simpa using hn)
theorem put4_spec (n : Int) (h0 : 0 ≤ n) (hn : n < 4294967296) : ∃ m, ∀ k, m ≤ k → ipfix_put.f k n 4 = some (beS n 4) := put_spec n 4 (by decide) (by decide) h0 (by simpa using hn)
theorem put1_spec (n : Int) (h0 : 0 ≤ n) (hn : n < 256) : ∃ m, ∀ k, m ≤ k → ipfix_put.f k n 1 = some (beS n 1) := put_spec n 1 (by decide) (by decide) h0 (by simpa using hn)
theorem oput2_spec (n : Int) (h0 : 0 ≤ n) (hn : n < 65536) : ∃ m, ∀ k, m ≤ k → octet_Put.f k n 2 = some (beS n 2, 0) := oput_spec n 2 (by decide) (by decide) h0 (by simpa using hn)
theorem oput2_long (n : Int) (hn : 65536 ≤ n) : ∃ m, ∀ k, m ≤ k → octet_Put.f k n 2 = some (⟨#[]⟩, 1) := oput_long n 2 (by decide) (by decide) (by omega) (by simpa using hn)

/-- a text by a field's length n, as it is written; may it be? -/
def encV (n : Int) (v : ByteArray) : ByteArray := if n = 65535 then (if v.size < 255 then beS v.size 1 ++ v else beS 255 1 ++ beS v.size 2 ++ v) else v
def okV (n : Int) (v : ByteArray) : Bool := decide ((n = 65535 ∨ (v.size : Int) = n) ∧ v.size ≤ 65535)
/-- a record: none: it is refused -/
def recW : List Int → List ByteArray → Option ByteArray
  | n :: ns, v :: vs => if okV n v = true then (recW ns vs).map (encV n v ++ ·) else none
  | _, _ => some ⟨#[]⟩
theorem encV_size (n : Int) (v : ByteArray) : (encV n v).size ≤ v.size + 3 := by
  unfold encV
  split
  · split
    · rw [ByteArray.size_append, beS_size]; omega
    · rw [ByteArray.size_append, ByteArray.size_append, beS_size, beS_size]; omega
  · omega
theorem recW_size (m : Nat) : ∀ (ns : List Int) (vs : List ByteArray) (s : ByteArray), (∀ v ∈ vs, v.size ≤ m) → recW ns vs = some s → s.size ≤ vs.length * (m + 3) := by
  intro ns
  induction ns with
  | nil => intro vs s _ h; simp only [recW, Option.some.injEq] at h; subst h; exact Nat.zero_le _
  | cons n ns ih =>
    intro vs s hv h
    cases vs with
    | nil => simp only [recW, Option.some.injEq] at h; subst h; exact Nat.zero_le _
    | cons v vs =>
      rw [recW] at h
      split at h
      · cases e : recW ns vs with
        | none => rw [e] at h; cases h
        | some u =>
          rw [e] at h
          simp only [Option.map_some, Option.some.injEq] at h
          subst h
          have h1 := ih vs u (fun x hx => hv x (List.mem_cons_of_mem _ hx)) e
          have h2 := encV_size n v
          have h3 := hv v List.mem_cons_self
          rw [ByteArray.size_append, List.length_cons, Nat.succ_mul]; omega
      · cases h
theorem rdv (vs : List ByteArray) (i : Nat) (h : i < vs.length) : vs.drop i = rdOf ByteArray.empty vs (i : Int) :: vs.drop (i + 1) := by
  rw [List.drop_eq_getElem_cons h]
  simp [rdOf, List.getD_eq_getElem?_getD, h]
/-- what is told of a record -/
def recR (acc : ByteArray) (o : Option ByteArray) : ByteArray × Int := match o with | some s => (acc ++ s, 0) | none => (⟨#[]⟩, 1)
theorem dropN (t : List S82) (i : Nat) (h : i < t.length) : (t.map (·.f1)).drop i = (rd_T82 t (i : Int)).f1 :: (t.map (·.f1)).drop (i + 1) := by
  rw [List.drop_eq_getElem_cons (by rw [List.length_map]; exact h)]
  simp [rd_T82, List.getD_eq_getElem?_getD, h]
theorem rec_l0 (id : Int) (t : List S82) (vs : List ByteArray) (ht : t.length ≤ 80) (hl : vs.length = t.length) : ∀ (d i : Nat) (acc : ByteArray), i + d = t.length → acc.size ≤ i * 66000 → Evt (fun k => ipfix_Record.l0 k vs (vs.length : Int) (i : Int) id t acc false) (recR acc (recW ((t.map (·.f1)).drop i) (vs.drop i))) := by
  intro d
  induction d with
  | zero =>
    intro i acc h _
    refine Evt.step (Evt.now (f := fun _ => some _) (fun _ => rfl)) (fun k => ?_)
    simp only [ipfix_Record.l0]
    rw [if_neg (by omega), List.drop_of_length_le (by rw [List.length_map]; omega), List.drop_of_length_le (by omega)]
    simp only [strings_Builder_String.f, Option.bind_some, recW, recR, app_nil]
  | succ d ih =>
    intro i acc h ha
    rw [dropN t i (by omega), rdv vs i (by omega), recW]
    have a1 : (i : Int) < (vs.length : Int) := by omega
    have a2 : 0 ≤ (i : Int) := Int.natCast_nonneg i
    have a3 : (i : Int) < (t.length : Int) := by omega
    generalize hv : rdOf ByteArray.empty vs (i : Int) = v
    generalize hn : (rd_T82 t (i : Int)).f1 = n
    by_cases ok : okV n v = true
    · rw [if_pos ok]
      have hok : (n = 65535 ∨ (v.size : Int) = n) ∧ v.size ≤ 65535 := of_decide_eq_true ok
      have hz := encV_size n v
      have hb : (acc ++ encV n v).size ≤ (i + 1) * 66000 := by rw [ByteArray.size_append]; omega
      have hacc : acc.size ≤ 5280000 := by omega
      have hvz : v.size ≤ 65535 := hok.2
      clear ha
      have hN := ih (i + 1) (acc ++ encV n v) (by omega) hb
      have hR : recR acc ((recW ((t.map (·.f1)).drop (i + 1)) (vs.drop (i + 1))).map (encV n v ++ ·)) = recR (acc ++ encV n v) (recW ((t.map (·.f1)).drop (i + 1)) (vs.drop (i + 1))) := by
        cases recW ((t.map (·.f1)).drop (i + 1)) (vs.drop (i + 1)) with
        | none => rfl
        | some s => simp only [recR, Option.map_some, ByteArray.append_assoc]
      rw [hR]
      have ei : ∀ _ : Unit, wrap64 ((i : Int) + 1) = ((i + 1 : Nat) : Int) := by intro _; rw [i64_in ((i : Int) + 1) (by omega) (by omega)]; omega
      have step : ∀ b : Bool, b = decide (n = 65535 ∧ (v.size : Int) < 255) → Evt (fun k => ipfix_Record.j3 k v n vs (vs.length : Int) (i : Int) b id t acc false) (recR (acc ++ encV n v) (recW ((t.map (·.f1)).drop (i + 1)) (vs.drop (i + 1)))) := by
        intro b hb'
        by_cases c : n = 65535
        · by_cases c2 : (v.size : Int) < 255
          · rw [decide_eq_true ⟨c, c2⟩] at hb'
            subst hb'
            have ee : encV n v = beS v.size 1 ++ v := by unfold encV; rw [if_pos c, if_pos (by omega)]
            rw [ee] at hN ⊢
            refine Evt.step (Evt.bind (put1_spec (v.size : Int) (by omega) (by omega)) (g := fun k (t204 : ByteArray) => ((strings_Builder_WriteString.f acc false t204).bind fun bt205 => ((strings_Builder_WriteString.f bt205.2.2.1 bt205.2.2.2 v).bind fun bt209 => (ipfix_Record.l0 k vs (vs.length : Int) (wrap64 ((i : Int) + 1)) id t bt209.2.2.1 bt209.2.2.2)))) (hN.eq fun k => ?_)) (fun k => ?_)
            · simp only [strings_Builder_WriteString.f]
              rw [if_pos (by rw [beS_size]; omega), Option.bind_some, if_pos (by rw [ByteArray.size_append, beS_size]; omega), Option.bind_some, ei (), ByteArray.append_assoc]
            · simp only [ipfix_Record.j3, if_pos]
          · rw [decide_eq_false (fun g => c2 g.2)] at hb'
            subst hb'
            have ee : encV n v = beS 255 1 ++ beS v.size 2 ++ v := by unfold encV; rw [if_pos c, if_neg (by omega)]
            rw [ee] at hN ⊢
            refine Evt.step (Evt.bind (put1_spec 255 (by omega) (by omega)) (g := fun k (t213 : ByteArray) => ((ipfix_put.f k (v.size : Int) 2).bind fun t214 => (if t213.size + t214.size ≤ 9223372036854775807 then ((strings_Builder_WriteString.f acc false (t213 ++ t214)).bind fun bt215 => ((strings_Builder_WriteString.f bt215.2.2.1 bt215.2.2.2 v).bind fun bt219 => (ipfix_Record.l0 k vs (vs.length : Int) (wrap64 ((i : Int) + 1)) id t bt219.2.2.1 bt219.2.2.2))) else (none)))) (Evt.bind (put2_spec (v.size : Int) (by omega) (by omega)) (g := fun k (t214 : ByteArray) => (if (beS 255 1).size + t214.size ≤ 9223372036854775807 then ((strings_Builder_WriteString.f acc false (beS 255 1 ++ t214)).bind fun bt215 => ((strings_Builder_WriteString.f bt215.2.2.1 bt215.2.2.2 v).bind fun bt219 => (ipfix_Record.l0 k vs (vs.length : Int) (wrap64 ((i : Int) + 1)) id t bt219.2.2.1 bt219.2.2.2))) else (none))) (hN.eq fun k => ?_))) (fun k => ?_)
            · simp only [strings_Builder_WriteString.f]
              rw [if_pos (by rw [beS_size, beS_size]; omega), if_pos (by rw [ByteArray.size_append, beS_size, beS_size]; omega), Option.bind_some, if_pos (by rw [ByteArray.size_append, ByteArray.size_append, beS_size, beS_size]; omega), Option.bind_some, ei ()]
              simp only [ByteArray.append_assoc]
            · simp only [ipfix_Record.j3]
              rw [if_neg (by decide), if_pos c]
        · rw [decide_eq_false (fun g => c g.1)] at hb'
          subst hb'
          have ee : encV n v = v := by unfold encV; rw [if_neg c]
          rw [ee] at hN ⊢
          refine Evt.step (hN.eq fun k => ?_) (fun k => rfl)
          simp only [ipfix_Record.j3, strings_Builder_WriteString.f]
          rw [if_neg (by decide), if_neg c, if_pos (by omega), Option.bind_some, ei ()]
      have hj2 : Evt (fun k => ipfix_Record.j2 k v n vs (vs.length : Int) (i : Int) false id t acc false) (recR (acc ++ encV n v) (recW ((t.map (·.f1)).drop (i + 1)) (vs.drop (i + 1)))) := by
        refine Evt.step (step _ rfl) (fun k => ?_)
        simp only [ipfix_Record.j2]
        rw [if_neg (by decide)]
        by_cases c : n = 65535
        · rw [if_pos c, show decide (n = 65535 ∧ (v.size : Int) < 255) = decide ((v.size : Int) < 255) from decide_eq_decide.2 ⟨fun g => g.2, fun g => ⟨c, g⟩⟩]
        · rw [if_neg c, decide_eq_false (fun g => c g.1)]
      refine Evt.step hj2 (fun k => ?_)
      simp only [ipfix_Record.l0]
      rw [if_pos a1, if_pos a2, if_pos a1, if_pos a3, hv, hn, decide_eq_false (show ¬ ((v.size : Int) > 65535) by omega)]
      by_cases c : n = 65535
      · rw [if_pos c]
      · rw [if_neg c, if_pos (by omega)]
    · rw [if_neg ok]
      have hok : ¬ ((n = 65535 ∨ (v.size : Int) = n) ∧ v.size ≤ 65535) := fun g => ok (decide_eq_true g)
      clear ha
      have hj2 : Evt (fun k => ipfix_Record.j2 k v n vs (vs.length : Int) (i : Int) true id t acc false) (recR acc none) := by
        refine Evt.step (Evt.now (f := fun _ => some _) (fun _ => rfl)) (fun k => ?_)
        simp only [ipfix_Record.j2]
        rw [if_pos trivial]; rfl
      refine Evt.step hj2 (fun k => ?_)
      simp only [ipfix_Record.l0]
      rw [if_pos a1, if_pos a2, if_pos a1, if_pos a3, hv, hn]
      by_cases c : n = 65535
      · rw [if_pos c, decide_eq_true (show (v.size : Int) > 65535 by omega)]
      · rw [if_neg c]
        by_cases c2 : (v.size : Int) = n
        · rw [if_pos c2, decide_eq_true (show (v.size : Int) > 65535 by omega)]
        · rw [if_neg c2]
theorem rec_spec (id : Int) (t : List S82) (vs : List ByteArray) (ht : t.length ≤ 80) : Evt (fun k => ipfix_Record.f k id t vs) (if trightB id t = true ∧ vs.length = t.length then recR ⟨#[]⟩ (recW (t.map (·.f1)) vs) else (⟨#[]⟩, 1)) := by
  have h0 : Evt (fun k => ipfix_Record.j0 k vs true id t) (⟨#[]⟩, 1) := by
    refine Evt.step (Evt.now (f := fun _ => some _) (fun _ => rfl)) (fun k => ?_)
    simp only [ipfix_Record.j0]
    rw [if_pos trivial]
  by_cases c : trightB id t = true
  · by_cases c2 : vs.length = t.length
    · rw [if_pos ⟨c, c2⟩]
      have h := rec_l0 id t vs ht c2 t.length 0 ⟨#[]⟩ (by omega) (Nat.zero_le _)
      rw [List.drop_zero, List.drop_zero] at h
      refine (Evt.step h (f := fun k => ipfix_Record.j0 k vs false id t) (fun k => ?_)).eq (fun k => ?_)
      · simp only [ipfix_Record.j0, abi_NoEscape.f]
        rw [if_neg (by decide), Option.bind_some]; rfl
      · unfold ipfix_Record.f
        rw [tright_spec id t (by omega), Option.bind_some, if_pos c, show ((vs.length : Int) != (t.length : Int)) = false by rw [c2]; exact bne_self_eq_false _]
    · rw [if_neg (fun g => c2 g.2)]
      refine h0.eq (fun k => ?_)
      unfold ipfix_Record.f
      rw [tright_spec id t (by omega), Option.bind_some, if_pos c, show ((vs.length : Int) != (t.length : Int)) = true from bne_iff_ne.2 (by omega)]
  · rw [if_neg (fun g => c g.1)]
    refine h0.eq (fun k => ?_)
    unfold ipfix_Record.f
    rw [tright_spec id t (by omega), Option.bind_some, if_neg c]

theorem awake22 : rillmeterlaw22_awake.f 40 = some true := by decide +kernel
theorem awake_spec : ∃ m, ∀ k, m ≤ k → rillmeterlaw22_awake.f k = some true := by
  refine ⟨40, fun k hk => ?_⟩
  induction hk with
  | refl => exact awake22
  | step _ ih => exact rillmeterlaw22_awake.mono _ _ ih

theorem short_l0 (vs : List ByteArray) (hv : vs.length ≤ 9223372036854775807) : ∀ (d i : Nat) (s : Int), i + d = vs.length → ∃ r, Evt (fun k => rillmeterlaw22_short.l0 k vs s vs (vs.length : Int) (i : Int)) r ∧ (r = true → vs.length ≤ 80 ∧ ∀ v ∈ vs.drop i, v.size ≤ 4096) := by
  intro d
  induction d with
  | zero =>
    intro i s h
    by_cases c : (vs.length : Int) ≤ 80
    · refine ⟨_, Evt.step (Evt.now (f := fun _ => some (decide (s ≤ 8192))) (fun _ => rfl)) (fun k => ?_), fun _ => ⟨by omega, fun v hm => ?_⟩⟩
      · simp only [rillmeterlaw22_short.l0]
        rw [if_neg (by omega), if_pos c]
      · rw [List.drop_of_length_le (by omega)] at hm; cases hm
    · refine ⟨_, Evt.step (Evt.now (f := fun _ => some false) (fun _ => rfl)) (fun k => ?_), fun h => by cases h⟩
      simp only [rillmeterlaw22_short.l0]
      rw [if_neg (by omega), if_neg c]
  | succ d ih =>
    intro i s h
    by_cases c : ((rdOf ByteArray.empty vs (i : Int)).size : Int) > 4096
    · refine ⟨_, Evt.step (Evt.now (f := fun _ => some false) (fun _ => rfl)) (fun k => ?_), fun h => by cases h⟩
      simp only [rillmeterlaw22_short.l0]
      rw [if_pos (by omega), if_pos (by omega), if_pos (by omega), if_pos c]
    · obtain ⟨r, hr, hb⟩ := ih (i + 1) (wrap64 (s + ((rdOf ByteArray.empty vs (i : Int)).size : Int))) (by omega)
      refine ⟨r, Evt.step hr (fun k => ?_), fun e => ⟨(hb e).1, fun v hm => ?_⟩⟩
      · simp only [rillmeterlaw22_short.l0]
        rw [if_pos (by omega), if_pos (by omega), if_pos (by omega), if_neg c, i64_in ((i : Int) + 1) (by omega) (by omega), show (i : Int) + 1 = ((i + 1 : Nat) : Int) by omega]
      · rw [rdv vs i (by omega)] at hm
        rcases List.mem_cons.1 hm with rfl | hm
        · omega
        · exact (hb e).2 v hm
theorem short_spec (vs : List ByteArray) (hv : vs.length ≤ 9223372036854775807) : ∃ r, Evt (fun k => rillmeterlaw22_short.f k vs) r ∧ (r = true → vs.length ≤ 80 ∧ ∀ v ∈ vs, v.size ≤ 4096) := by
  obtain ⟨r, hr, hb⟩ := short_l0 vs hv vs.length 0 0 (by omega)
  exact ⟨r, hr.eq (fun k => rfl), hb⟩

/-- so many bytes, the rest, and how it went -/
def cutP (s : ByteArray) (n : Int) : ByteArray × ByteArray × Int :=
  if n < 0 then (⟨#[]⟩, ⟨#[]⟩, 1) else if (s.size : Int) < n then (⟨#[]⟩, ⟨#[]⟩, 2) else (s.extract 0 n.toNat, s.extract n.toNat s.size, 0)
theorem cut_spec (s : ByteArray) (n : Int) : octet_Cut.f s n = some (cutP s n) := by
  unfold octet_Cut.f cutP
  by_cases h : n < 0
  · rw [if_pos h, if_pos h]
  · rw [if_neg h, if_neg h]
    by_cases g : (s.size : Int) < n
    · rw [if_pos g, if_pos g]
    · rw [if_neg g, if_neg g, if_pos (by omega), if_pos (by omega)]
theorem cutP_ok {s : ByteArray} {n : Int} (h : (cutP s n).2.2 = 0) : 0 ≤ n ∧ n ≤ s.size ∧ cutP s n = (s.extract 0 n.toNat, s.extract n.toNat s.size, 0) := by
  unfold cutP at h ⊢
  by_cases c : n < 0
  · rw [if_pos c] at h; exact absurd h (by decide)
  · rw [if_neg c] at h ⊢
    by_cases g : (s.size : Int) < n
    · rw [if_pos g] at h; exact absurd h (by decide)
    · rw [if_neg g]; exact ⟨by omega, by omega, rfl⟩
theorem cutP_more {s : ByteArray} {n : Int} (b : ByteArray) (h : (cutP s n).2.2 = 0) : cutP (s ++ b) n = ((cutP s n).1, (cutP s n).2.1 ++ b, 0) := by
  obtain ⟨h0, h1, e⟩ := cutP_ok h
  rw [e]
  unfold cutP
  rw [if_neg (by omega), if_neg (by rw [ByteArray.size_append]; omega)]
  refine Prod.ext ?_ (Prod.ext ?_ rfl)
  · show (s ++ b).extract 0 n.toNat = s.extract 0 n.toNat
    rw [ByteArray.extract_append, show n.toNat - s.size = 0 by omega, show 0 - s.size = 0 by omega]
    apply ByteArray.ext
    simp
  · show (s ++ b).extract n.toNat (s ++ b).size = s.extract n.toNat s.size ++ b
    rw [ByteArray.extract_append, ByteArray.size_append, show n.toNat - s.size = 0 by omega, show s.size + b.size - s.size = b.size by omega]
    congr 1
    · apply ByteArray.ext
      rw [ByteArray.data_extract, ByteArray.data_extract]
      apply Array.ext_getElem?
      intro i
      simp only [Array.getElem?_extract, ByteArray.size_data]
      by_cases c : i < s.size - n.toNat
      · rw [if_pos (by omega), if_pos (by omega)]
      · rw [if_neg (by omega), if_neg (by omega)]
    · apply ByteArray.ext
      simp
theorem cutP_le (s : ByteArray) (n : Int) : (cutP s n).2.1.size ≤ s.size := by
  unfold cutP
  by_cases c : n < 0
  · rw [if_pos c]; exact Nat.zero_le _
  · rw [if_neg c]
    by_cases g : (s.size : Int) < n
    · rw [if_pos g]; exact Nat.zero_le _
    · rw [if_neg g]
      show (s.extract n.toNat s.size).size ≤ s.size
      rw [ByteArray.size_extract]; omega

theorem cutP_eq (s : ByteArray) (n : Int) : cutP s n = if 0 ≤ n ∧ n ≤ s.size then (s.extract 0 n.toNat, s.extract n.toNat s.size, 0) else (⟨#[]⟩, ⟨#[]⟩, if n < 0 then 1 else 2) := by
  unfold cutP
  by_cases c : n < 0
  · rw [if_pos c, if_neg (by omega), if_pos c]
  · rw [if_neg c]
    by_cases g : (s.size : Int) < n
    · rw [if_pos g, if_neg (by omega), if_neg c]
    · rw [if_neg g, if_pos (by omega)]

/-- the number that bytes are, from a place on -/
def numA (x : ByteArray) : Nat → Int → Nat → Int
  | 0, acc, _ => acc
  | d + 1, acc, i => numA x d (Go.bits .or .i64 (wrap64 (acc * 256)) (wrap64 (bt x (i : Int)))) (i + 1)
/-- the number at the beginning, the rest, and how it went -/
def takeP (s : ByteArray) (n : Nat) : Int × ByteArray × Int :=
  if (cutP s n).2.2 = 0 then (numA (cutP s n).1 (cutP s n).1.size 0 0, (cutP s n).2.1, 0) else (0, ⟨#[]⟩, (cutP s n).2.2)
theorem take_l0 (x y : ByteArray) (hx : x.size ≤ 1000000) : ∀ (d i : Nat) (acc : Int), i + d = x.size → Evt (fun k => octet_Take.l0 k x y acc (x.size : Int) (i : Int)) (numA x d acc i, y, 0) := by
  intro d
  induction d with
  | zero =>
    intro i acc h
    refine Evt.step (Evt.now (f := fun _ => some (acc, y, (0 : Int))) (fun _ => rfl)) (fun k => ?_)
    simp only [octet_Take.l0]
    rw [if_neg (by omega)]
  | succ d ih =>
    intro i acc h
    refine Evt.step (ih (i + 1) _ (by omega)) (fun k => ?_)
    simp only [octet_Take.l0]
    rw [if_pos (by omega), if_pos (by omega), if_pos (by omega), i64_in ((i : Int) + 1) (by omega) (by omega), show (i : Int) + 1 = ((i + 1 : Nat) : Int) by omega]
theorem take_spec (s : ByteArray) (n : Nat) (h1 : 1 ≤ n) (h7 : n ≤ 7) : Evt (fun k => octet_Take.f k s (n : Int)) (takeP s n) := by
  have hj : Evt (fun k => octet_Take.j0 k s (n : Int) false) (takeP s n) := by
    unfold takeP
    by_cases h : (cutP s n).2.2 = 0
    · rw [if_pos h]
      have hz : (cutP s n).1.size ≤ 1000000 := by
        obtain ⟨a, b, e⟩ := cutP_ok h
        rw [e]
        show (s.extract 0 _).size ≤ _
        rw [ByteArray.size_extract]; omega
      refine Evt.step (take_l0 (cutP s n).1 (cutP s n).2.1 hz _ 0 0 (by omega)) (fun k => ?_)
      simp only [octet_Take.j0]
      rw [if_neg (by decide), cut_spec, Option.bind_some, if_pos h]
      rfl
    · rw [if_neg h]
      refine Evt.step (Evt.now (f := fun _ => some ((0 : Int), (⟨#[]⟩ : ByteArray), (cutP s n).2.2)) (fun _ => rfl)) (fun k => ?_)
      simp only [octet_Take.j0]
      rw [if_neg (by decide), cut_spec, Option.bind_some, if_neg h]
  refine hj.eq (fun k => ?_)
  unfold octet_Take.f
  rw [if_neg (by omega), decide_eq_false (by omega)]
theorem takeP_more {s : ByteArray} {n : Nat} (b : ByteArray) (h : (takeP s n).2.2 = 0) : takeP (s ++ b) n = ((takeP s n).1, (takeP s n).2.1 ++ b, 0) := by
  unfold takeP at h ⊢
  by_cases c : (cutP s n).2.2 = 0
  · rw [if_pos c, cutP_more b c, if_pos rfl]
  · rw [if_neg c] at h; exact absurd h c
theorem takeP_le (s : ByteArray) (n : Nat) : (takeP s n).2.1.size ≤ s.size := by
  unfold takeP
  by_cases c : (cutP s n).2.2 = 0
  · rw [if_pos c]; exact cutP_le s n
  · rw [if_neg c]; exact Nat.zero_le _

theorem numA_pre (x : ByteArray) : ∀ (d i : Nat), i + d ≤ 7 → numA x d (pre x i) i = pre x (i + d) := by
  intro d
  induction d with
  | zero => intro i _; rfl
  | succ d ih =>
    intro i h
    have hb := bt_range x (i : Int)
    have hp := pre_range x i
    have h2 : (2 : Int) ^ (8 * i) ≤ 2 ^ 48 := by
      have := Nat.pow_le_pow_right (show 0 < 2 by decide) (show 8 * i ≤ 48 by omega)
      exact_mod_cast this
    have h3 : (2 : Int) ^ 48 = 281474976710656 := by decide
    have e : Go.bits .or .i64 (wrap64 (pre x i * 256)) (wrap64 (bt x (i : Int))) = pre x (i + 1) := by
      rw [i64_in (pre x i * 256) (by omega) (by omega), i64_in (bt x (i : Int)) (by omega) (by omega), pre]
      rw [bits_join .i64 63 (by decide) (fun n h0 h1 => by rw [i64_w, i64_in n (by omega) (by omega)]) 8 (pre x i * 256) (bt x (i : Int)) (by omega) (by omega) (by omega) (by omega) (by omega) (by omega)]
      omega
    rw [numA, e, ih (i + 1) (by omega)]
    congr 1; omega
theorem takeP_eq (s : ByteArray) (n : Nat) (h7 : n ≤ 7) : takeP s n = if n ≤ s.size then (pre s n, s.extract n s.size, 0) else (0, ⟨#[]⟩, 2) := by
  unfold takeP
  by_cases c : n ≤ s.size
  · have e : cutP s (n : Int) = (s.extract 0 n, s.extract n s.size, 0) := by rw [cutP_eq, if_pos (by omega), Int.toNat_natCast]
    rw [e, if_pos c, if_pos rfl]
    refine Prod.ext ?_ rfl
    have hz : (s.extract 0 n).size = n := by rw [ByteArray.size_extract]; omega
    show numA (s.extract 0 n) (s.extract 0 n).size 0 0 = pre s n
    rw [hz, show (0 : Int) = pre (s.extract 0 n) 0 from rfl, numA_pre _ _ _ (by omega), Nat.zero_add]
    exact pre_congr _ _ _ (fun j hj => by rw [bt_extract _ _ _ _ (by omega) c, Nat.zero_add])
  · have e : cutP s (n : Int) = (⟨#[]⟩, ⟨#[]⟩, 2) := by rw [cutP_eq, if_neg (by omega), if_neg (by omega)]
    rw [e, if_neg c, if_neg (by decide)]

/-- a number taken off -/
def rnumP (s : ByteArray) (bad : Bool) (n : Nat) : Int × ByteArray × Bool := if (takeP s n).2.2 = 0 then ((takeP s n).1, (takeP s n).2.1, bad) else (0, ⟨#[]⟩, true)
theorem rnum_spec (s : ByteArray) (bad : Bool) (n : Nat) (h1 : 1 ≤ n) (h7 : n ≤ 7) : ∃ m, ∀ k, m ≤ k → ipfix_reader_num.f k s bad (n : Int) = some (rnumP s bad n) := by
  obtain ⟨m, h⟩ := take_spec s n h1 h7
  refine ⟨m, fun k hk => ?_⟩
  have h2 := h k hk
  simp only at h2
  unfold ipfix_reader_num.f rnumP
  rw [h2, Option.bind_some]
  by_cases c : (takeP s n).2.2 = 0
  · rw [if_pos c, if_pos c]
  · rw [if_neg c, if_neg c]
theorem rnumP_bad (s : ByteArray) (n : Nat) : (rnumP s true n).2.2 = true := by
  unfold rnumP
  split <;> rfl
theorem rnumP_le (s : ByteArray) (bad : Bool) (n : Nat) : (rnumP s bad n).2.1.size ≤ s.size := by
  unfold rnumP
  split
  · exact takeP_le s n
  · exact Nat.zero_le _
theorem rnumP_more {s : ByteArray} {n : Nat} (b : ByteArray) (h : (rnumP s false n).2.2 = false) : rnumP (s ++ b) false n = ((rnumP s false n).1, (rnumP s false n).2.1 ++ b, false) := by
  unfold rnumP at h ⊢
  by_cases c : (takeP s n).2.2 = 0
  · rw [if_pos c, takeP_more b c, if_pos rfl]
  · rw [if_neg c] at h; cases h

theorem rnumP_eq (s : ByteArray) (bad : Bool) (n : Nat) (h7 : n ≤ 7) : rnumP s bad n = if n ≤ s.size then (pre s n, s.extract n s.size, bad) else (0, ⟨#[]⟩, true) := by
  unfold rnumP
  rw [takeP_eq s n h7]
  by_cases c : n ≤ s.size
  · rw [if_pos c, if_pos rfl, if_pos c]
  · rw [if_neg c, if_neg (by decide), if_neg c]
theorem rnumP_app (v : Int) (n : Nat) (y : ByteArray) (bad : Bool) (h7 : n ≤ 7) (h0 : 0 ≤ v) (h1 : v < 2 ^ (8 * n)) : rnumP (beS v n ++ y) bad n = (v, y, bad) := by
  rw [rnumP_eq _ _ _ h7, if_pos (by rw [ByteArray.size_append, beS_size]; omega), pre_app v n y h0 h1, ex_app_right' _ _ _ (beS_size v n)]
theorem rnumP_suf (x : ByteArray) (a : Nat) (bad : Bool) (n : Nat) (h7 : n ≤ 7) (h : a + n ≤ x.size) : rnumP (suf x a) bad n = (pre (suf x a) n, suf x (a + n), bad) := by
  rw [rnumP_eq _ _ _ h7, if_pos (by rw [suf_size]; omega), suf_suf x a n h]
theorem rnumP_suf' (x : ByteArray) (a : Nat) (bad : Bool) (n : Nat) (h7 : n ≤ 7) (h0 : 1 ≤ n) (h : ¬ a + n ≤ x.size) : rnumP (suf x a) bad n = (0, ⟨#[]⟩, true) := by
  rw [rnumP_eq _ _ _ h7, if_neg (by rw [suf_size]; omega)]

/-- a text taken off -/
def rtextP (s : ByteArray) (bad : Bool) (n : Int) : ByteArray × ByteArray × Bool := if (cutP s n).2.2 = 0 then ((cutP s n).1, (cutP s n).2.1, bad) else (⟨#[]⟩, ⟨#[]⟩, true)
theorem rtext_spec (s : ByteArray) (bad : Bool) (n : Int) : ipfix_reader_text.f s bad n = some (rtextP s bad n) := by
  unfold ipfix_reader_text.f rtextP
  rw [cut_spec, Option.bind_some]
  by_cases c : (cutP s n).2.2 = 0
  · rw [if_pos c, if_pos c]
  · rw [if_neg c, if_neg c]
theorem rtextP_bad (s : ByteArray) (n : Int) : (rtextP s true n).2.2 = true := by
  unfold rtextP
  split <;> rfl
theorem rtextP_le (s : ByteArray) (bad : Bool) (n : Int) : (rtextP s bad n).2.1.size ≤ s.size := by
  unfold rtextP
  split
  · exact cutP_le s n
  · exact Nat.zero_le _
theorem rtextP_more {s : ByteArray} {n : Int} (b : ByteArray) (h : (rtextP s false n).2.2 = false) : rtextP (s ++ b) false n = ((rtextP s false n).1, (rtextP s false n).2.1 ++ b, false) := by
  unfold rtextP at h ⊢
  by_cases c : (cutP s n).2.2 = 0
  · rw [if_pos c, cutP_more b c, if_pos rfl]
  · rw [if_neg c] at h; cases h

theorem rtextP_eq (s : ByteArray) (bad : Bool) (n : Int) : rtextP s bad n = if 0 ≤ n ∧ n ≤ s.size then (s.extract 0 n.toNat, s.extract n.toNat s.size, bad) else (⟨#[]⟩, ⟨#[]⟩, true) := by
  unfold rtextP
  rw [cutP_eq]
  by_cases c : 0 ≤ n ∧ n ≤ s.size
  · rw [if_pos c, if_pos c]; rfl
  · rw [if_neg c, if_neg c]
    refine if_neg ?_
    show ¬ ((if n < 0 then (1 : Int) else 2) = 0)
    split <;> decide
theorem rtextP_app (v y : ByteArray) (bad : Bool) (n : Int) (h : n = v.size) : rtextP (v ++ y) bad n = (v, y, bad) := by
  subst h
  rw [rtextP_eq, if_pos (by rw [ByteArray.size_append]; omega), Int.toNat_natCast, ex_app_left, ex_app_right]
theorem rtextP_suf (x : ByteArray) (a : Nat) (bad : Bool) (n : Int) (h0 : 0 ≤ n) (h : a + n ≤ x.size) : rtextP (suf x a) bad n = (x.extract a (a + n.toNat), suf x (a + n.toNat), bad) := by
  rw [rtextP_eq, if_pos (by rw [suf_size]; omega), suf_ex x a 0 n.toNat (by omega) (by omega), suf_suf x a n.toNat (by omega)]; rfl
theorem rtextP_suf' (x : ByteArray) (a : Nat) (bad : Bool) (n : Int) (ha : a ≤ x.size) (h : ¬ (0 ≤ n ∧ a + n ≤ x.size)) : rtextP (suf x a) bad n = (⟨#[]⟩, ⟨#[]⟩, true) := by
  rw [rtextP_eq, if_neg (by rw [suf_size]; omega)]

/-- a text by a field's length -/
def fieldP (n : Int) (s : ByteArray) (bad : Bool) : ByteArray × ByteArray × Bool :=
  if n = 65535 then
    (if (rnumP s bad 1).1 = 255 then rtextP (rnumP (rnumP s bad 1).2.1 (rnumP s bad 1).2.2 2).2.1 (rnumP (rnumP s bad 1).2.1 (rnumP s bad 1).2.2 2).2.2 (rnumP (rnumP s bad 1).2.1 (rnumP s bad 1).2.2 2).1
     else rtextP (rnumP s bad 1).2.1 (rnumP s bad 1).2.2 (rnumP s bad 1).1)
  else rtextP s bad n
theorem fieldP_bad (n : Int) (s : ByteArray) : (fieldP n s true).2.2 = true := by
  unfold fieldP
  split
  · split
    · rw [rnumP_bad, rnumP_bad]; exact rtextP_bad _ _
    · rw [rnumP_bad]; exact rtextP_bad _ _
  · exact rtextP_bad _ _
theorem fieldP_le (n : Int) (s : ByteArray) (bad : Bool) : (fieldP n s bad).2.1.size ≤ s.size := by
  unfold fieldP
  split
  · split
    · exact Nat.le_trans (rtextP_le _ _ _) (Nat.le_trans (rnumP_le _ _ _) (rnumP_le _ _ _))
    · exact Nat.le_trans (rtextP_le _ _ _) (rnumP_le _ _ _)
  · exact rtextP_le _ _ _
theorem fieldP_more {n : Int} {s : ByteArray} (b : ByteArray) (h : (fieldP n s false).2.2 = false) : fieldP n (s ++ b) false = ((fieldP n s false).1, (fieldP n s false).2.1 ++ b, false) := by
  unfold fieldP at h ⊢
  by_cases c : n = 65535
  · rw [if_pos c] at h ⊢
    rw [if_pos c]
    cases e1 : (rnumP s false 1).2.2 with
    | true =>
      rw [e1] at h
      by_cases d : (rnumP s false 1).1 = 255
      · rw [if_pos d, rnumP_bad, rtextP_bad] at h; cases h
      · rw [if_neg d, rtextP_bad] at h; cases h
    | false =>
      rw [rnumP_more b e1]
      rw [e1] at h
      by_cases d : (rnumP s false 1).1 = 255
      · rw [if_pos d] at h ⊢
        rw [if_pos d]
        cases e2 : (rnumP (rnumP s false 1).2.1 false 2).2.2 with
        | true => rw [e2, rtextP_bad] at h; cases h
        | false =>
          rw [e2] at h
          simp only
          rw [rnumP_more b e2]
          exact rtextP_more b h
      · rw [if_neg d] at h ⊢
        rw [if_neg d]
        exact rtextP_more b h
  · rw [if_neg c] at h ⊢
    rw [if_neg c]
    exact rtextP_more b h

/-- a record by the fields -/
def recP : List S82 → List ByteArray → ByteArray → Bool → List ByteArray × ByteArray × Bool
  | [], l, s, bad => (l, s, bad)
  | y :: t, l, s, bad => recP t (l ++ [(fieldP y.f1 s bad).1]) (fieldP y.f1 s bad).2.1 (fieldP y.f1 s bad).2.2
theorem recP_bad : ∀ (t : List S82) (l : List ByteArray) (s : ByteArray), (recP t l s true).2.2 = true := by
  intro t
  induction t with
  | nil => intro l s; rfl
  | cons y t ih => intro l s; rw [recP, fieldP_bad]; exact ih _ _
theorem recP_le : ∀ (t : List S82) (l : List ByteArray) (s : ByteArray) (bad : Bool), (recP t l s bad).2.1.size ≤ s.size := by
  intro t
  induction t with
  | nil => intro l s bad; exact Nat.le_refl _
  | cons y t ih => intro l s bad; rw [recP]; exact Nat.le_trans (ih _ _ _) (fieldP_le _ _ _)
theorem recP_more (b : ByteArray) : ∀ (t : List S82) (l : List ByteArray) (s : ByteArray), (recP t l s false).2.2 = false → recP t l (s ++ b) false = ((recP t l s false).1, (recP t l s false).2.1 ++ b, false) := by
  intro t
  induction t with
  | nil => intro l s _; rfl
  | cons y t ih =>
    intro l s h
    rw [recP] at h
    cases e : (fieldP y.f1 s false).2.2 with
    | true => rw [e, recP_bad] at h; cases h
    | false =>
      rw [e] at h
      rw [recP, recP, fieldP_more b e, e]
      exact ih _ _ h
theorem recP_len : ∀ (t : List S82) (l : List ByteArray) (s : ByteArray) (bad : Bool), (recP t l s bad).1.length = l.length + t.length := by
  intro t
  induction t with
  | nil => intro l s bad; rfl
  | cons y t ih => intro l s bad; rw [recP, ih, List.length_append, List.length_cons]; simp; omega

/-- all records, in at most so many steps -/
def recsP (t : List S82) : Nat → List (List ByteArray) → ByteArray → List (List ByteArray) × Int
  | 0, acc, _ => (acc, 0)
  | m + 1, acc, s => if s.toList = ([] : List UInt8) then (acc, 0) else
      if (recP t [] s false).2.2 = true then ([], 3) else if (recP t [] s false).2.1.size = s.size then ([], 3) else recsP t m (acc ++ [(recP t [] s false).1]) (recP t [] s false).2.1

theorem field_step (k : Nat) (y : S82) (s : ByteArray) (bad : Bool) {α : Type} (g : ByteArray × ByteArray × Bool → Option α) (m1 m2 : Nat)
    (h1 : ∀ k, m1 ≤ k → ipfix_reader_num.f k s bad 1 = some (rnumP s bad 1)) (h2 : ∀ k, m2 ≤ k → ipfix_reader_num.f k (rnumP s bad 1).2.1 (rnumP s bad 1).2.2 2 = some (rnumP (rnumP s bad 1).2.1 (rnumP s bad 1).2.2 2)) (hk : m1 + m2 ≤ k) :
    (if y.f1 = 65535 then ((ipfix_reader_num.f k s bad 1).bind fun bt256 => (if bt256.1 = 255 then ((ipfix_reader_num.f k bt256.2.1 bt256.2.2 2).bind fun bt259 => ((ipfix_reader_text.f bt259.2.1 bt259.2.2 bt259.1).bind g)) else ((ipfix_reader_text.f bt256.2.1 bt256.2.2 bt256.1).bind g))) else ((ipfix_reader_text.f s bad y.f1).bind g)) = g (fieldP y.f1 s bad) := by
  unfold fieldP
  by_cases c : y.f1 = 65535
  · rw [if_pos c, if_pos c, h1 k (by omega), Option.bind_some]
    by_cases d : (rnumP s bad 1).1 = 255
    · rw [if_pos d, if_pos d, h2 k (by omega), Option.bind_some, rtext_spec, Option.bind_some]
    · rw [if_neg d, if_neg d, rtext_spec, Option.bind_some]
  · rw [if_neg c, if_neg c, rtext_spec, Option.bind_some]

theorem recs_l1 (id : Int) (t : List S82) (ht : t.length ≤ 80) (acc : List (List ByteArray)) (hacc : acc.length ≤ 1000000) (L : Int) {R : List (List ByteArray) × Int} :
    ∀ (d i : Nat) (l : List ByteArray) (s : ByteArray) (bad : Bool), i + d = t.length → l.length = i →
      (∃ m, ∀ k, m ≤ k → (if (recP (t.drop i) l s bad).2.2 = true then (some (([] : List (List ByteArray)), (3 : Int))) else (if ((recP (t.drop i) l s bad).2.1.size : Int) = L then (some (([] : List (List ByteArray)), 3)) else (ipfix_Records.l0 k (acc ++ [(recP (t.drop i) l s bad).1]) id t (recP (t.drop i) l s bad).2.1 (recP (t.drop i) l s bad).2.2))) = some R) →
      ∃ m, ∀ k, m ≤ k → ipfix_Records.l1 k acc L l t (t.length : Int) (i : Int) id t s bad = some R := by
  intro d
  induction d with
  | zero =>
    intro i l s bad h0 hl ⟨m, hm⟩
    refine ⟨m + 1, fun k hk => ?_⟩
    obtain ⟨k, rfl⟩ : ∃ q, k = q + 1 := ⟨k - 1, by omega⟩
    have h := hm k (by omega)
    rw [List.drop_of_length_le (by omega), recP] at h
    unfold ipfix_Records.l1
    rw [if_neg (by omega), if_pos (show acc.length < 5864062014805 by omega)]
    exact h
  | succ d ih =>
    intro i l s bad h0 hl ⟨m, hm⟩
    have hd : t.drop i = rd_T82 t (i : Int) :: t.drop (i + 1) := by
      rw [List.drop_eq_getElem_cons (by omega)]
      simp [rd_T82, List.getD_eq_getElem?_getD, show i < t.length by omega]
    obtain ⟨m1, h1⟩ := rnum_spec s bad 1 (by decide) (by decide)
    obtain ⟨m2, h2⟩ := rnum_spec (rnumP s bad 1).2.1 (rnumP s bad 1).2.2 2 (by decide) (by decide)
    rw [hd, recP] at hm
    obtain ⟨m3, h3⟩ := ih (i + 1) (l ++ [(fieldP (rd_T82 t (i : Int)).f1 s bad).1]) _ _ (by omega) (by simp; omega) ⟨m, hm⟩
    refine ⟨m1 + m2 + m3 + 1, fun k hk => ?_⟩
    obtain ⟨k, rfl⟩ : ∃ q, k = q + 1 := ⟨k - 1, by omega⟩
    unfold ipfix_Records.l1
    rw [if_pos (by omega), if_pos (by omega), if_pos (by omega)]
    refine (field_step k (rd_T82 t (i : Int)) s bad (fun bt => if l.length < 8796093022208 then ipfix_Records.l1 k acc L (l ++ [bt.1]) t (t.length : Int) (wrap64 ((i : Int) + 1)) id t bt.2.1 bt.2.2 else none) m1 m2 h1 h2 (by omega)).trans ?_
    rw [if_pos (by omega), i64_in ((i : Int) + 1) (by omega) (by omega), show (i : Int) + 1 = ((i + 1 : Nat) : Int) by omega]
    exact h3 k (by omega)

theorem recs_l0 (id : Int) (t : List S82) (ht : t.length ≤ 80) : ∀ (m : Nat) (acc : List (List ByteArray)) (s : ByteArray), s.size < m → acc.length + s.size ≤ 1000000 → ∃ q, ∀ k, q ≤ k → ipfix_Records.l0 k acc id t s false = some (recsP t m acc s) := by
  intro m
  induction m with
  | zero => intro acc s h; omega
  | succ m ih =>
    intro acc s hs ha
    by_cases c : s.toList = ([] : List UInt8)
    · refine ⟨1, fun k hk => ?_⟩
      obtain ⟨k, rfl⟩ : ∃ q, k = q + 1 := ⟨k - 1, by omega⟩
      unfold ipfix_Records.l0 recsP
      rw [if_pos c, if_pos c]
    · have hle := recP_le t [] s false
      have key : ∃ q, ∀ k, q ≤ k → (if (recP (t.drop 0) [] s false).2.2 = true then (some (([] : List (List ByteArray)), (3 : Int))) else (if ((recP (t.drop 0) [] s false).2.1.size : Int) = (s.size : Int) then (some (([] : List (List ByteArray)), 3)) else (ipfix_Records.l0 k (acc ++ [(recP (t.drop 0) [] s false).1]) id t (recP (t.drop 0) [] s false).2.1 (recP (t.drop 0) [] s false).2.2))) = some (recsP t (m + 1) acc s) := by
        rw [List.drop_zero]
        unfold recsP
        rw [if_neg c]
        by_cases b : (recP t [] s false).2.2 = true
        · exact ⟨0, fun k _ => by rw [if_pos b, if_pos b]⟩
        · by_cases e : (recP t [] s false).2.1.size = s.size
          · exact ⟨0, fun k _ => by rw [if_neg b, if_neg b, if_pos (by rw [e]), if_pos e]⟩
          · obtain ⟨q, hq⟩ := ih (acc ++ [(recP t [] s false).1]) (recP t [] s false).2.1 (by omega) (by simp; omega)
            refine ⟨q, fun k hk => ?_⟩
            rw [if_neg b, if_neg b, if_neg (by omega), if_neg e, Bool.eq_false_iff.2 b]
            exact hq k hk
      obtain ⟨q, hq⟩ := recs_l1 id t ht acc (by omega) (s.size : Int) t.length 0 [] s false (by omega) rfl key
      refine ⟨q + 1, fun k hk => ?_⟩
      obtain ⟨k, rfl⟩ : ∃ q, k = q + 1 := ⟨k - 1, by omega⟩
      unfold ipfix_Records.l0
      rw [if_neg c]
      exact hq k (by omega)

theorem recs_spec (id : Int) (t : List S82) (ht : t.length ≤ 80) (s : ByteArray) (hs : s.size ≤ 1000000) (b : Bool) (hb : ipfix_Template_right.f id t = some b) :
    ∃ q, ∀ k, q ≤ k → ipfix_Records.f k id t s = some (if b = true then recsP t (s.size + 1) [] s else ([], 1)) := by
  obtain ⟨q, hq⟩ := recs_l0 id t ht (s.size + 1) [] s (by omega) (by simp; omega)
  refine ⟨q, fun k hk => ?_⟩
  unfold ipfix_Records.f abi_NoEscape.f
  rw [hb, Option.bind_some]
  cases b with
  | true => rw [if_pos rfl, if_pos rfl]; exact hq k hk
  | false => rw [if_neg (by decide), if_neg (by decide)]

theorem recsP_rows (t : List S82) (N : Nat) (hN : t.length = N) : ∀ (m : Nat) (acc : List (List ByteArray)) (s : ByteArray), (∀ r ∈ acc, r.length = N) → ∀ r ∈ (recsP t m acc s).1, r.length = N := by
  intro m
  induction m with
  | zero => intro acc s h; exact h
  | succ m ih =>
    intro acc s h
    unfold recsP
    by_cases c : s.toList = ([] : List UInt8)
    · rw [if_pos c]; exact h
    · rw [if_neg c]
      by_cases b : (recP t [] s false).2.2 = true
      · rw [if_pos b]; intro r hr; cases hr
      · rw [if_neg b]
        by_cases e : (recP t [] s false).2.1.size = s.size
        · rw [if_pos e]; intro r hr; cases hr
        · rw [if_neg e]
          refine ih _ _ (fun r hr => ?_)
          rcases List.mem_append.1 hr with hr | hr
          · exact h r hr
          · rw [List.mem_singleton.1 hr, recP_len]; simp [hN]
theorem recsP_len (t : List S82) : ∀ (m : Nat) (acc : List (List ByteArray)) (s : ByteArray), s.size < m → (recsP t m acc s).1.length ≤ acc.length + s.size := by
  intro m
  induction m with
  | zero => intro acc s h; omega
  | succ m ih =>
    intro acc s h
    unfold recsP
    by_cases c : s.toList = ([] : List UInt8)
    · rw [if_pos c]; show acc.length ≤ _; omega
    · rw [if_neg c]
      by_cases b : (recP t [] s false).2.2 = true
      · rw [if_pos b]; exact Nat.zero_le _
      · rw [if_neg b]
        by_cases e : (recP t [] s false).2.1.size = s.size
        · rw [if_pos e]; exact Nat.zero_le _
        · rw [if_neg e]
          have hle := recP_le t [] s false
          have := ih (acc ++ [(recP t [] s false).1]) (recP t [] s false).2.1 (by omega)
          rw [List.length_append, List.length_singleton] at this
          omega

theorem recsP_two (t : List S82) : ∀ (m : Nat) (acc : List (List ByteArray)) (s : ByteArray), (recsP t m acc s).2 = 0 ∨ recsP t m acc s = ([], 3) := by
  intro m
  induction m with
  | zero => intro acc s; exact Or.inl rfl
  | succ m ih =>
    intro acc s
    unfold recsP
    split
    · exact Or.inl rfl
    · split
      · exact Or.inr rfl
      · split
        · exact Or.inr rfl
        · exact ih _ _

/-- fields as the document's -/
def cvF (y : S82) : S88 := ⟨y.f0, y.f1, y.f2⟩
theorem tref_l0 (id : Int) (t : List S82) (ht : t.length ≤ 1000000) : ∀ (d i : Nat), i + d = t.length → Evt (fun k => rillmeterlaw22_tref.l0 k t (t.length : Int) (i : Int) id ((t.take i).map cvF)) (id, t.map cvF) := by
  intro d
  induction d with
  | zero =>
    intro i h
    refine Evt.step (Evt.now (f := fun _ => some (id, t.map cvF)) (fun _ => rfl)) (fun k => ?_)
    simp only [rillmeterlaw22_tref.l0]
    rw [if_neg (by omega), List.take_of_length_le (by omega)]
  | succ d ih =>
    intro i h
    refine Evt.step (ih (i + 1) (by omega)) (fun k => ?_)
    simp only [rillmeterlaw22_tref.l0]
    have e : t.take (i + 1) = t.take i ++ [rd_T82 t (i : Int)] := by
      rw [List.take_add_one, List.getElem?_eq_getElem (by omega)]
      simp [rd_T82, List.getD_eq_getElem?_getD, show i < t.length by omega]
    rw [if_pos (by omega), if_pos (by omega), if_pos (by omega), if_pos (by rw [List.length_map, List.length_take]; omega), i64_in ((i : Int) + 1) (by omega) (by omega), show (i : Int) + 1 = ((i + 1 : Nat) : Int) by omega, e, List.map_append]
    rfl
theorem tref_spec (id : Int) (t : List S82) (ht : t.length ≤ 1000000) : Evt (fun k => rillmeterlaw22_tref.f k id t) (id, t.map cvF) :=
  (tref_l0 id t ht t.length 0 (by omega)).eq (fun k => rfl)

theorem in_spec (n a b : Int) : rillmeterref22_in.f n a b = some (decide (a ≤ n ∧ n ≤ b)) := by
  unfold rillmeterref22_in.f
  by_cases h : n ≥ a
  · rw [if_pos h]; congr 1; exact decide_eq_decide.2 ⟨fun g => ⟨h, g⟩, fun g => g.2⟩
  · rw [if_neg h]; congr 1; exact (decide_eq_false (fun g => h g.1)).symm
theorem drop82 (t : List S82) (i : Nat) (h : i < t.length) : t.drop i = rd_T82 t (i : Int) :: t.drop (i + 1) := by
  rw [List.drop_eq_getElem_cons h]
  simp [rd_T82, List.getD_eq_getElem?_getD, h]
theorem rd88 (t : List S82) (i : Nat) (h : i < t.length) : rd_T88 (t.map cvF) (i : Int) = cvF (rd_T82 t (i : Int)) := by
  simp [rd_T82, rd_T88, List.getD_eq_getElem?_getD, h]
theorem sound_l0 (id : Int) (t : List S82) (ht : t.length ≤ 1000000) : ∀ (d i : Nat), i + d = t.length → Evt (fun k => rillmeterref22_Sound.l0 k (i : Int) id (t.map cvF)) (decide (256 ≤ id ∧ id < 65536) && decide (1 ≤ t.length ∧ t.length < 65) && (t.drop i).all fokB) := by
  intro d
  induction d with
  | zero =>
    intro i h
    refine Evt.step (Evt.now (f := fun _ => some _) (fun _ => rfl)) (fun k => ?_)
    simp only [rillmeterref22_Sound.l0]
    rw [if_neg (by rw [List.length_map]; omega), in_spec, in_spec, List.length_map, List.drop_of_length_le (by omega), List.all_nil, Bool.and_true, show decide (256 ≤ id ∧ id ≤ 65535) = decide (256 ≤ id ∧ id < 65536) from decide_eq_decide.2 (by omega), show decide ((1 : Int) ≤ (t.length : Int) ∧ (t.length : Int) ≤ 64) = decide (1 ≤ t.length ∧ t.length < 65) from decide_eq_decide.2 (by omega)]
    cases decide (256 ≤ id ∧ id < 65536) <;> rfl
  | succ d ih =>
    intro i h
    have hF : fokB (rd_T82 t (i : Int)) = (decide (0 ≤ (rd_T82 t (i : Int)).f0 ∧ (rd_T82 t (i : Int)).f0 ≤ 32767) && decide (0 ≤ (rd_T82 t (i : Int)).f1 ∧ (rd_T82 t (i : Int)).f1 ≤ 65535) && decide (0 ≤ (rd_T82 t (i : Int)).f2 ∧ (rd_T82 t (i : Int)).f2 ≤ 4294967295)) := by
      unfold fokB
      congr 1
      · congr 1 <;> exact decide_eq_decide.2 (by omega)
      · exact decide_eq_decide.2 (by omega)
    rw [drop82 t i (by omega), List.all_cons]
    have key : ∀ k, rillmeterref22_Sound.l0 (k + 1) (i : Int) id (t.map cvF) = if fokB (rd_T82 t (i : Int)) = true then rillmeterref22_Sound.l0 k ((i + 1 : Nat) : Int) id (t.map cvF) else some false := by
      intro k
      simp only [rillmeterref22_Sound.l0]
      rw [if_pos (by rw [List.length_map]; omega), if_pos (by omega), rd88 t i (by omega), i64_in ((i : Int) + 1) (by omega) (by omega), show (i : Int) + 1 = ((i + 1 : Nat) : Int) by omega]
      simp only [cvF, in_spec, Option.bind_some]
      rw [hF]
      cases decide (0 ≤ (rd_T82 t (i : Int)).f0 ∧ (rd_T82 t (i : Int)).f0 ≤ 32767) <;> cases decide (0 ≤ (rd_T82 t (i : Int)).f1 ∧ (rd_T82 t (i : Int)).f1 ≤ 65535) <;> cases decide (0 ≤ (rd_T82 t (i : Int)).f2 ∧ (rd_T82 t (i : Int)).f2 ≤ 4294967295) <;> rfl
    cases hf : fokB (rd_T82 t (i : Int)) with
    | true =>
      rw [Bool.true_and]
      exact Evt.step (ih (i + 1) (by omega)) (fun k => by rw [key, if_pos hf])
    | false =>
      rw [Bool.false_and, Bool.and_false]
      exact Evt.step (Evt.now (f := fun _ => some false) (fun _ => rfl)) (fun k => by rw [key, hf]; rfl)
theorem sound_spec (id : Int) (t : List S82) (ht : t.length ≤ 1000000) : Evt (fun k => rillmeterref22_Sound.f k id (t.map cvF)) (trightB id t) :=
  (sound_l0 id t ht t.length 0 (by omega)).eq (fun k => rfl)

theorem rpower_l0 (b : Nat) (hb : b ≤ 7) : ∀ (d i : Nat), i + d = b → Evt (fun k => rillmeterref04_power.l0 k (b : Int) (2 ^ (8 * i)) (i : Int)) (2 ^ (8 * b)) := by
  intro d
  induction d with
  | zero =>
    intro i h
    refine Evt.step (Evt.now (f := fun _ => some _) (fun _ => rfl)) (fun k => ?_)
    simp only [rillmeterref04_power.l0]
    rw [if_neg (by omega), show i = b by omega]
  | succ d ih =>
    intro i h
    refine Evt.step (ih (i + 1) (by omega)) (fun k => ?_)
    simp only [rillmeterref04_power.l0]
    have h2 : (2 : Int) ^ (8 * i) ≤ 2 ^ 48 := by
      have := Nat.pow_le_pow_right (show 0 < 2 by decide) (show 8 * i ≤ 48 by omega)
      exact_mod_cast this
    have h3 : (2 : Int) ^ 48 = 281474976710656 := by decide
    have h4 : (0 : Int) < 2 ^ (8 * i) := Int.pow_pos (by decide)
    rw [if_pos (by omega), i64_in ((2 : Int) ^ (8 * i) * 256) (by omega) (by omega), i64_in ((i : Int) + 1) (by omega) (by omega), show (i : Int) + 1 = ((i + 1 : Nat) : Int) by omega, show 8 * (i + 1) = 8 * i + 8 by omega, Int.pow_add]
    rfl
theorem rpower_spec (b : Nat) (hb : b ≤ 7) : Evt (fun k => rillmeterref04_power.f k (b : Int)) (2 ^ (8 * b)) :=
  (rpower_l0 b hb b 0 (by omega)).eq (fun k => rfl)

theorem beS_step (n : Int) (b i : Nat) (h : i < b) (h0 : 0 ≤ n) : beS (n / 2 ^ (8 * i)) (b - i) = beS (n / 2 ^ (8 * (i + 1))) (b - (i + 1)) ++ strOfNums [n / 2 ^ (8 * i) % 256] := by
  have hz : (strOfNums [n / 2 ^ (8 * i) % 256]).size = 1 := by rw [strOfNums_size]; rfl
  refine bytes_ext (by rw [ByteArray.size_append, beS_size, beS_size, hz]; omega) (fun j hj => ?_)
  rw [beS_size] at hj
  rw [bt_beS _ _ _ hj]
  by_cases c : j < b - (i + 1)
  · rw [bt_left _ _ _ (by rw [beS_size]; exact c), bt_beS _ _ _ c, Int.ediv_ediv_of_nonneg (Int.le_of_lt (Int.pow_pos (by decide))), Int.ediv_ediv_of_nonneg (Int.le_of_lt (Int.pow_pos (by decide))), ← Int.pow_add, ← Int.pow_add, show 8 * i + 8 * (b - i - 1 - j) = 8 * (i + 1) + 8 * (b - (i + 1) - 1 - j) by omega]
  · have e : j = (beS (n / 2 ^ (8 * (i + 1))) (b - (i + 1))).size + 0 := by rw [beS_size]; omega
    rw [show (j : Int) = (((beS (n / 2 ^ (8 * (i + 1))) (b - (i + 1))).size + 0 : Nat) : Int) by rw [← e], bt_right _ _ _ (by rw [hz]; omega), bt_nums _ _ (by exact Nat.zero_lt_one) (by show 0 ≤ n / 2 ^ (8 * i) % 256; omega) (by show n / 2 ^ (8 * i) % 256 < 256; omega), show 8 * (b - i - 1 - j) = 0 by omega]
    simp
theorem beS_zero (n : Int) : beS n 0 = ⟨#[]⟩ := rfl
theorem rput_l0 (n : Int) (b : Nat) (hb : b ≤ 7) (h0 : 0 ≤ n) (hn : n < 72057594037927936) : ∀ (d i : Nat), i + d = b → ∀ acc : ByteArray, acc.size = i → Evt (fun k => rillmeterref04_Put.l0 k (n / 2 ^ (8 * i)) (b : Int) acc (i : Int)) (beS (n / 2 ^ (8 * i)) (b - i) ++ acc, true) := by
  intro d
  induction d with
  | zero =>
    intro i h acc _
    refine Evt.step (Evt.now (f := fun _ => some _) (fun _ => rfl)) (fun k => ?_)
    simp only [rillmeterref04_Put.l0]
    rw [if_neg (by omega), show b - i = 0 by omega, beS_zero, nil_app]
  | succ d ih =>
    intro i h acc ha
    have hz : (strOfNums [n / 2 ^ (8 * i) % 256]).size = 1 := by rw [strOfNums_size]; rfl
    have h1 := ih (i + 1) (by omega) (strOfNums [n / 2 ^ (8 * i) % 256] ++ acc) (by rw [ByteArray.size_append, hz]; omega)
    rw [beS_step n b i (by omega) h0, ByteArray.append_assoc]
    have hq : 0 ≤ n / 2 ^ (8 * i) ∧ n / 2 ^ (8 * i) ≤ n := ⟨Int.ediv_nonneg h0 (Int.le_of_lt (Int.pow_pos (by decide))), Int.ediv_le_self _ h0⟩
    have e1 : Int.tmod (n / 2 ^ (8 * i)) 256 % 256 = n / 2 ^ (8 * i) % 256 := by rw [Int.tmod_eq_emod_of_nonneg hq.1]; omega
    have e2 : wrap64 (Int.tdiv (n / 2 ^ (8 * i)) 256) = n / 2 ^ (8 * (i + 1)) := by
      rw [Int.tdiv_eq_ediv_of_nonneg hq.1, i64_in _ (by omega) (by omega), show 8 * (i + 1) = 8 * i + 8 by omega, Int.pow_add, ← Int.ediv_ediv_of_nonneg (Int.le_of_lt (Int.pow_pos (by decide)))]
      rfl
    refine Evt.step h1 (fun k => ?_)
    simp only [rillmeterref04_Put.l0]
    rw [if_pos (by omega)]
    simp only [Option.bind_some]
    rw [e1, e2, if_pos (by rw [hz]; omega), i64_in ((i : Int) + 1) (by omega) (by omega), show (i : Int) + 1 = ((i + 1 : Nat) : Int) by omega]
theorem rput_spec (n : Int) (b : Nat) (h1 : 1 ≤ b) (h7 : b ≤ 7) (h0 : 0 ≤ n) (hn : n < 2 ^ (8 * b)) : Evt (fun k => rillmeterref04_Put.f k n (b : Int)) (beS n b, true) := by
  have h2 : (2 : Int) ^ (8 * b) ≤ 2 ^ 56 := by
    have := Nat.pow_le_pow_right (show 0 < 2 by decide) (show 8 * b ≤ 56 by omega)
    exact_mod_cast this
  have h3 : (2 : Int) ^ 56 = 72057594037927936 := by decide
  have hA := rput_l0 n b h7 h0 (by omega) b 0 (by omega) ⟨#[]⟩ rfl
  rw [show n / 2 ^ (8 * 0) = n by simp, Nat.sub_zero, app_nil] at hA
  have hj : Evt (fun k => rillmeterref04_Put.j0 k n (b : Int) false) (beS n b, true) := by
    refine Evt.step hA (fun k => ?_)
    simp only [rillmeterref04_Put.j0]
    rw [if_neg (by decide)]; rfl
  refine (Evt.bind (rpower_spec b h7) (g := fun k t297 => rillmeterref04_Put.j0 k n (b : Int) (decide (n ≥ t297))) (hj.eq fun k => by rw [decide_eq_false (by omega)])).eq (fun k => ?_)
  simp only [rillmeterref04_Put.f]
  rw [if_neg (by omega), if_neg (by omega), if_neg (by omega)]

theorem rnum22_spec (n : Int) (b : Nat) (h1 : 1 ≤ b) (h7 : b ≤ 7) (h0 : 0 ≤ n) (hn : n < 2 ^ (8 * b)) : Evt (fun k => rillmeterref22_num.f k n (b : Int)) (beS n b) :=
  (Evt.bind (rput_spec n b h1 h7 h0 hn) (g := fun _ (bt : ByteArray × Bool) => some bt.1) (Evt.now fun _ => rfl)).eq (fun k => rfl)
theorem rn1_spec (n : Int) (h0 : 0 ≤ n) (hn : n < 256) : Evt (fun k => rillmeterref22_num.f k n 1) (beS n 1) := rnum22_spec n 1 (by decide) (by decide) h0 (by simpa using hn)
theorem rn2_spec (n : Int) (h0 : 0 ≤ n) (hn : n < 65536) : Evt (fun k => rillmeterref22_num.f k n 2) (beS n 2) := rnum22_spec n 2 (by decide) (by decide) h0 (by simpa using hn)
theorem rn4_spec (n : Int) (h0 : 0 ≤ n) (hn : n < 4294967296) : Evt (fun k => rillmeterref22_num.f k n 4) (beS n 4) := rnum22_spec n 4 (by decide) (by decide) h0 (by simpa using hn)

def recT (acc : ByteArray) (o : Option ByteArray) : ByteArray × Bool := match o with | some s => (acc ++ s, true) | none => (⟨#[]⟩, false)
theorem rrec_l0 (id : Int) (t : List S82) (vs : List ByteArray) (ht : t.length ≤ 80) (hl : vs.length = t.length) : ∀ (d i : Nat) (acc : ByteArray), i + d = t.length → acc.size ≤ i * 66000 → Evt (fun k => rillmeterref22_Record.l0 k vs acc (i : Int) id (t.map cvF)) (recT acc (recW ((t.map (·.f1)).drop i) (vs.drop i))) := by
  intro d
  induction d with
  | zero =>
    intro i acc h _
    refine Evt.step (Evt.now (f := fun _ => some _) (fun _ => rfl)) (fun k => ?_)
    simp only [rillmeterref22_Record.l0]
    rw [if_neg (by omega), List.drop_of_length_le (by rw [List.length_map]; omega), List.drop_of_length_le (by omega)]
    simp only [recW, recT, app_nil]
  | succ d ih =>
    intro i acc h ha
    rw [dropN t i (by omega), rdv vs i (by omega), recW]
    have hcv : (rd_T88 (t.map cvF) (i : Int)).f1 = (rd_T82 t (i : Int)).f1 := by rw [rd88 t i (by omega)]; rfl
    generalize hv : rdOf ByteArray.empty vs (i : Int) = v
    generalize hn : (rd_T82 t (i : Int)).f1 = n
    rw [hn] at hcv
    have ei : ∀ _ : Unit, wrap64 ((i : Int) + 1) = ((i + 1 : Nat) : Int) := by intro _; rw [i64_in ((i : Int) + 1) (by omega) (by omega)]; omega
    by_cases ok : okV n v = true
    · rw [if_pos ok]
      have hok : (n = 65535 ∨ (v.size : Int) = n) ∧ v.size ≤ 65535 := of_decide_eq_true ok
      have hz := encV_size n v
      have hb : (acc ++ encV n v).size ≤ (i + 1) * 66000 := by rw [ByteArray.size_append]; omega
      have hacc : acc.size ≤ 5280000 := by omega
      have hvz : v.size ≤ 65535 := hok.2
      clear ha
      have hN := ih (i + 1) (acc ++ encV n v) (by omega) hb
      have hR : recT acc ((recW ((t.map (·.f1)).drop (i + 1)) (vs.drop (i + 1))).map (encV n v ++ ·)) = recT (acc ++ encV n v) (recW ((t.map (·.f1)).drop (i + 1)) (vs.drop (i + 1))) := by
        cases recW ((t.map (·.f1)).drop (i + 1)) (vs.drop (i + 1)) with
        | none => rfl
        | some s => simp only [recT, Option.map_some, ByteArray.append_assoc]
      rw [hR]
      have step : ∀ b : Bool, b = decide (n = 65535 ∧ (v.size : Int) < 255) → Evt (fun k => rillmeterref22_Record.j2 k vs acc (i : Int) (v.size : Int) b id (t.map cvF)) (recT (acc ++ encV n v) (recW ((t.map (·.f1)).drop (i + 1)) (vs.drop (i + 1)))) := by
        intro b hb'
        by_cases c : n = 65535
        · by_cases c2 : (v.size : Int) < 255
          · rw [decide_eq_true ⟨c, c2⟩] at hb'
            subst hb'
            have ee : encV n v = beS v.size 1 ++ v := by unfold encV; rw [if_pos c, if_pos (by omega)]
            rw [ee] at hN ⊢
            obtain ⟨m1, e1⟩ := rn1_spec (v.size : Int) (by omega) (by omega)
            obtain ⟨m2, e2⟩ := hN
            refine ⟨m1 + m2 + 1, fun k hk => ?_⟩
            obtain ⟨k, rfl⟩ : ∃ q, k = q + 1 := ⟨k - 1, by omega⟩
            have e1 := e1 k (by omega)
            have e2 := e2 k (by omega)
            simp only [rillmeterref22_Record.j2]
            simp only at e1
            rw [if_pos trivial, e1, Option.bind_some, if_pos (by rw [beS_size]; omega), if_pos (by omega), if_pos (by omega), hv, if_pos (by rw [ByteArray.size_append, beS_size]; omega), ei (), ByteArray.append_assoc]
            exact e2
          · rw [decide_eq_false (fun g => c2 g.2)] at hb'
            subst hb'
            have ee : encV n v = beS 255 1 ++ beS v.size 2 ++ v := by unfold encV; rw [if_pos c, if_neg (by omega)]
            rw [ee] at hN ⊢
            obtain ⟨m1, e1⟩ := rn1_spec 255 (by omega) (by omega)
            obtain ⟨m3, e3⟩ := rn2_spec (v.size : Int) (by omega) (by omega)
            obtain ⟨m2, e2⟩ := hN
            refine ⟨m1 + m2 + m3 + 1, fun k hk => ?_⟩
            obtain ⟨k, rfl⟩ : ∃ q, k = q + 1 := ⟨k - 1, by omega⟩
            have e1 := e1 k (by omega)
            have e2 := e2 k (by omega)
            have e3 := e3 k (by omega)
            simp only [rillmeterref22_Record.j2]
            simp only at e1 e3
            rw [if_neg (by decide), if_pos (by omega), if_pos (by rw [List.length_map]; omega), hcv, if_pos c, e1, Option.bind_some, if_pos (by rw [beS_size]; omega), e3, Option.bind_some, if_pos (by rw [ByteArray.size_append, beS_size, beS_size]; omega), if_pos (by omega), hv, if_pos (by rw [ByteArray.size_append, ByteArray.size_append, beS_size, beS_size]; omega), ei ()]
            simp only [ByteArray.append_assoc] at e2 ⊢
            exact e2
        · rw [decide_eq_false (fun g => c g.1)] at hb'
          subst hb'
          have ee : encV n v = v := by unfold encV; rw [if_neg c]
          rw [ee] at hN ⊢
          refine Evt.step (hN.eq fun k => ?_) (fun k => rfl)
          simp only [rillmeterref22_Record.j2]
          rw [if_neg (by decide), if_pos (by omega), if_pos (by rw [List.length_map]; omega), hcv, if_neg c, if_pos (by omega), hv, if_pos (by omega), ei ()]
      have hj1 : Evt (fun k => rillmeterref22_Record.j1 k vs acc (i : Int) (v.size : Int) false id (t.map cvF)) (recT (acc ++ encV n v) (recW ((t.map (·.f1)).drop (i + 1)) (vs.drop (i + 1)))) := by
        refine Evt.step (step _ rfl) (fun k => ?_)
        simp only [rillmeterref22_Record.j1]
        rw [if_neg (by decide), if_pos (by omega), if_pos (by rw [List.length_map]; omega), hcv]
        by_cases c : n = 65535
        · rw [if_pos c, show decide (n = 65535 ∧ (v.size : Int) < 255) = decide ((v.size : Int) < 255) from decide_eq_decide.2 ⟨fun g => g.2, fun g => ⟨c, g⟩⟩]
        · rw [if_neg c, decide_eq_false (fun g => c g.1)]
      refine Evt.step hj1 (fun k => ?_)
      simp only [rillmeterref22_Record.l0]
      rw [if_pos (by omega), if_pos (by omega), hv, if_neg (by omega), if_pos (by rw [List.length_map]; omega), hcv]
      by_cases c : n = 65535
      · rw [if_pos c]
      · rw [if_neg c, show (n != (v.size : Int)) = false by rw [bne_eq_false_iff_eq]; omega]
    · rw [if_neg ok]
      have hok : ¬ ((n = 65535 ∨ (v.size : Int) = n) ∧ v.size ≤ 65535) := fun g => ok (decide_eq_true g)
      clear ha
      have hj1 : Evt (fun k => rillmeterref22_Record.j1 k vs acc (i : Int) (v.size : Int) true id (t.map cvF)) (recT acc none) := by
        refine Evt.step (Evt.now (f := fun _ => some _) (fun _ => rfl)) (fun k => ?_)
        simp only [rillmeterref22_Record.j1]
        rw [if_pos trivial]; rfl
      refine Evt.step hj1 (fun k => ?_)
      simp only [rillmeterref22_Record.l0]
      rw [if_pos (by omega), if_pos (by omega), hv]
      by_cases c2 : (v.size : Int) > 65535
      · rw [if_pos c2]
      · rw [if_neg c2, if_pos (by rw [List.length_map]; omega), hcv, if_neg (by omega), show (n != (v.size : Int)) = true from bne_iff_ne.2 (by omega)]
theorem rrec_spec (id : Int) (t : List S82) (vs : List ByteArray) (ht : t.length ≤ 80) : Evt (fun k => rillmeterref22_Record.f k id (t.map cvF) vs) (if vs.length = t.length then recT ⟨#[]⟩ (recW (t.map (·.f1)) vs) else (⟨#[]⟩, false)) := by
  by_cases c2 : vs.length = t.length
  · rw [if_pos c2]
    have h := rrec_l0 id t vs ht c2 t.length 0 ⟨#[]⟩ (by omega) (Nat.zero_le _)
    rw [List.drop_zero, List.drop_zero] at h
    refine h.eq (fun k => ?_)
    unfold rillmeterref22_Record.f
    rw [if_pos (by rw [List.length_map]; omega)]; rfl
  · rw [if_neg c2]
    refine Evt.eq (Evt.now (f := fun _ => some _) (fun _ => rfl)) (fun k => ?_)
    unfold rillmeterref22_Record.f
    rw [if_neg (by rw [List.length_map]; omega)]

theorem rnumber_l0 (x : ByteArray) : ∀ (d i : Nat), i + d = x.size → x.size ≤ 7 → Evt (fun k => rillmeterref04_Number.l0 k x (pre x i) (i : Int)) (pre x x.size) := by
  intro d
  induction d with
  | zero =>
    intro i h _
    refine Evt.step (Evt.now (f := fun _ => some _) (fun _ => rfl)) (fun k => ?_)
    simp only [rillmeterref04_Number.l0]
    rw [if_neg (by omega), show i = x.size by omega]
  | succ d ih =>
    intro i h hz
    refine Evt.step (ih (i + 1) (by omega) hz) (fun k => ?_)
    have hb := bt_range x (i : Int)
    have hp := pre_range x i
    have h2 : (2 : Int) ^ (8 * i) ≤ 2 ^ 48 := by
      have := Nat.pow_le_pow_right (show 0 < 2 by decide) (show 8 * i ≤ 48 by omega)
      exact_mod_cast this
    have h3 : (2 : Int) ^ 48 = 281474976710656 := by decide
    simp only [rillmeterref04_Number.l0]
    rw [if_pos (by omega), if_pos (by omega), i64_in (256 * pre x i) (by omega) (by omega), i64_in (bt x (i : Int)) (by omega) (by omega), i64_in (256 * pre x i + bt x (i : Int)) (by omega) (by omega), i64_in ((i : Int) + 1) (by omega) (by omega), show (i : Int) + 1 = ((i + 1 : Nat) : Int) by omega]
    rfl
theorem rnumber_spec (x : ByteArray) (a n : Nat) (hn : n ≤ 7) (ha : a ≤ 1000000000) : Evt (fun k => rillmeterref22_number.f k x (a : Int) (n : Int)) (if a + n ≤ x.size then pre (suf x a) n else -1) := by
  have e : ∀ _ : Unit, wrap64 ((a : Int) + (n : Int)) = ((a + n : Nat) : Int) := by intro _; rw [i64_in ((a : Int) + (n : Int)) (by omega) (by omega)]; omega
  by_cases c : a + n ≤ x.size
  · rw [if_pos c]
    have hz : (x.extract a (a + n)).size = n := by rw [ByteArray.size_extract]; omega
    have h := rnumber_l0 (x.extract a (a + n)) n 0 (by omega) (by omega)
    rw [hz, pre_ex x a n c] at h
    refine (Evt.bind (f := fun k => rillmeterref04_Number.f k (x.extract a (a + n))) (g := fun _ (t : Int) => some t) (h.eq fun k => rfl) (Evt.now fun _ => rfl)).eq (fun k => ?_)
    unfold rillmeterref22_number.f
    rw [e (), if_neg (by omega), if_pos (by omega), if_pos (by omega), if_pos (by omega), Int.toNat_natCast, Int.toNat_natCast]
  · rw [if_neg c]
    refine Evt.eq (Evt.now (f := fun _ => some (-1)) (fun _ => rfl)) (fun k => ?_)
    unfold rillmeterref22_number.f
    rw [e (), if_pos (by omega)]

/-- a text by a field's length at a place, and the place behind; none: there is none -/
def fieldAt (x : ByteArray) (n : Int) (a : Nat) : Option (ByteArray × Nat) :=
  if n = 65535 then
    (if a + 1 ≤ x.size then
      (if pre (suf x a) 1 = 255 then
        (if a + 3 ≤ x.size then (if a + 3 + (pre (suf x (a + 1)) 2).toNat ≤ x.size then some (x.extract (a + 3) (a + 3 + (pre (suf x (a + 1)) 2).toNat), a + 3 + (pre (suf x (a + 1)) 2).toNat) else none) else none)
       else (if a + 1 + (pre (suf x a) 1).toNat ≤ x.size then some (x.extract (a + 1) (a + 1 + (pre (suf x a) 1).toNat), a + 1 + (pre (suf x a) 1).toNat) else none))
     else none)
  else (if a + n.toNat ≤ x.size then some (x.extract a (a + n.toNat), a + n.toNat) else none)
theorem fieldAt_some (x : ByteArray) (n : Int) (hn : 0 ≤ n) (a : Nat) (ha : a ≤ x.size) {v : ByteArray} {b : Nat} (h : fieldAt x n a = some (v, b)) : fieldP n (suf x a) false = (v, suf x b, false) ∧ a ≤ b ∧ b ≤ x.size := by
  unfold fieldAt at h
  unfold fieldP
  by_cases c : n = 65535
  · rw [if_pos c] at h ⊢
    by_cases c1 : a + 1 ≤ x.size
    · rw [if_pos c1] at h
      have p1 := pre_1 (suf x a)
      rw [rnumP_suf x a false 1 (by decide) c1]
      by_cases c2 : pre (suf x a) 1 = 255
      · rw [if_pos c2] at h
        by_cases c3 : a + 3 ≤ x.size
        · rw [if_pos c3] at h
          have p2 := pre_2 (suf x (a + 1))
          by_cases c4 : a + 3 + (pre (suf x (a + 1)) 2).toNat ≤ x.size
          · rw [if_pos c4] at h
            simp only [Option.some.injEq, Prod.mk.injEq] at h
            rw [if_pos c2]
            simp only
            rw [rnumP_suf x (a + 1) false 2 (by decide) (by omega)]
            simp only
            rw [rtextP_suf x (a + 1 + 2) false _ p2.1 (by omega), ← h.1, ← h.2]
            exact ⟨rfl, by omega, by omega⟩
          · rw [if_neg c4] at h; cases h
        · rw [if_neg c3] at h; cases h
      · rw [if_neg c2] at h
        by_cases c4 : a + 1 + (pre (suf x a) 1).toNat ≤ x.size
        · rw [if_pos c4] at h
          simp only [Option.some.injEq, Prod.mk.injEq] at h
          rw [if_neg c2]
          simp only
          rw [rtextP_suf x (a + 1) false _ p1.1 (by omega), ← h.1, ← h.2]
          exact ⟨rfl, by omega, by omega⟩
        · rw [if_neg c4] at h; cases h
    · rw [if_neg c1] at h; cases h
  · rw [if_neg c] at h ⊢
    by_cases c4 : a + n.toNat ≤ x.size
    · rw [if_pos c4] at h
      simp only [Option.some.injEq, Prod.mk.injEq] at h
      rw [rtextP_suf x a false _ hn (by omega), ← h.1, ← h.2]
      exact ⟨rfl, by omega, by omega⟩
    · rw [if_neg c4] at h; cases h
theorem fieldAt_none (x : ByteArray) (n : Int) (hn : 0 ≤ n) (a : Nat) (ha : a ≤ x.size) (h : fieldAt x n a = none) : (fieldP n (suf x a) false).2.2 = true := by
  unfold fieldAt at h
  unfold fieldP
  by_cases c : n = 65535
  · rw [if_pos c] at h ⊢
    by_cases c1 : a + 1 ≤ x.size
    · rw [if_pos c1] at h
      have p1 := pre_1 (suf x a)
      rw [rnumP_suf x a false 1 (by decide) c1]
      by_cases c2 : pre (suf x a) 1 = 255
      · rw [if_pos c2] at h
        rw [if_pos c2]
        simp only
        by_cases c3 : a + 3 ≤ x.size
        · rw [if_pos c3] at h
          have p2 := pre_2 (suf x (a + 1))
          rw [rnumP_suf x (a + 1) false 2 (by decide) (by omega)]
          simp only
          by_cases c4 : a + 3 + (pre (suf x (a + 1)) 2).toNat ≤ x.size
          · rw [if_pos c4] at h; cases h
          · rw [rtextP_suf' x (a + 1 + 2) false _ (by omega) (by omega)]
        · rw [rnumP_suf' x (a + 1) false 2 (by decide) (by decide) (by omega)]
          exact rtextP_bad _ _
      · rw [if_neg c2] at h
        rw [if_neg c2]
        simp only
        by_cases c4 : a + 1 + (pre (suf x a) 1).toNat ≤ x.size
        · rw [if_pos c4] at h; cases h
        · rw [rtextP_suf' x (a + 1) false _ (by omega) (by omega)]
    · rw [rnumP_suf' x a false 1 (by decide) (by decide) c1]
      simp only
      rw [if_neg (by decide)]
      exact rtextP_bad _ _
  · rw [if_neg c] at h ⊢
    by_cases c4 : a + n.toNat ≤ x.size
    · rw [if_pos c4] at h; cases h
    · rw [rtextP_suf' x a false _ ha (by omega)]

/-- what one field does in the loop over fields -/
theorem rrecs_l1_step (x : ByteArray) (hx : x.size ≤ 1000000) (out : List (List ByteArray)) (was : Int) (l : List ByteArray) (hl : l.length ≤ 1000) (ts : List S88) (id : Int) (i a : Nat) (ha : a ≤ x.size) (hi : i < ts.length) (hts : ts.length ≤ 80) (n : Int) (hn0 : 0 ≤ n) (hn1 : n < 65536)
    (hn : ∀ _ : Unit, (rd_T88 ts (i : Int)).f1 = n) {R : List (List ByteArray) × Bool}
    (h : match fieldAt x n a with | some (v, b) => Evt (fun k => rillmeterref22_Records.l1 k x out (b : Int) was (l ++ [v]) ts (ts.length : Int) ((i + 1 : Nat) : Int) id ts) R | none => R = ([], false)) :
    Evt (fun k => rillmeterref22_Records.l1 k x out (a : Int) was l ts (ts.length : Int) (i : Int) id ts) R := by
  have ei : ∀ _ : Unit, wrap64 ((i : Int) + 1) = ((i + 1 : Nat) : Int) := by intro _; rw [i64_in ((i : Int) + 1) (by omega) (by omega)]; omega
  have p1 := pre_1 (suf x a)
  have p2 := pre_2 (suf x (a + 1))
  obtain ⟨m1, e1⟩ := rnumber_spec x a 1 (by decide) (by omega)
  obtain ⟨m2, e2⟩ := rnumber_spec x (a + 1) 2 (by decide) (by omega)
  unfold fieldAt at h
  generalize pre (suf x a) 1 = q1 at *
  generalize pre (suf x (a + 1)) 2 = q2 at *
  by_cases c : n = 65535
  · by_cases c1 : a + 1 ≤ x.size
    · rw [if_pos c1] at e1
      have ea : ∀ _ : Unit, wrap64 ((a : Int) + 1) = ((a + 1 : Nat) : Int) := by intro _; rw [i64_in ((a : Int) + 1) (by omega) (by omega)]; omega
      by_cases c2 : q1 = 255
      · have ea2 : ∀ _ : Unit, wrap64 (((a + 1 : Nat) : Int) + 2) = ((a + 3 : Nat) : Int) := by intro _; rw [i64_in _ (by omega) (by omega)]; omega
        by_cases c3 : a + 3 ≤ x.size
        · rw [if_pos (by omega)] at e2
          have ea3 : ∀ _ : Unit, wrap64 (((a + 3 : Nat) : Int) + q2) = ((a + 3 + (q2).toNat : Nat) : Int) := by intro _; rw [i64_in _ (by omega) (by omega)]; omega
          by_cases c4 : a + 3 + (q2).toNat ≤ x.size
          · rw [if_pos c, if_pos c1, if_pos c2, if_pos c3, if_pos c4] at h
            obtain ⟨m3, h⟩ := h
            refine ⟨m1 + m2 + m3 + 1, fun k hk => ?_⟩
            obtain ⟨k, rfl⟩ : ∃ q, k = q + 1 := ⟨k - 1, by omega⟩
            have e1 := e1 k (by omega)
            have e2 := e2 k (by omega)
            have h := h k (by omega)
            simp only [rillmeterref22_Records.l1]
            rw [if_pos (by omega), if_pos (by omega), if_pos (by omega), hn (), if_pos c]
            simp only [Int.cast_ofNat_Int] at e1 e2
            rw [e1, Option.bind_some, if_pos c2, ea (), e2, Option.bind_some, if_neg (by omega), ea2 (), ea3 (), if_neg (by omega), if_pos (by omega), if_pos (by omega), if_pos (by omega), if_pos (by omega), ei ()]
            exact h
          · rw [if_pos c, if_pos c1, if_pos c2, if_pos c3, if_neg c4] at h
            obtain rfl : R = ([], false) := h
            refine ⟨m1 + m2 + 1, fun k hk => ?_⟩
            obtain ⟨k, rfl⟩ : ∃ q, k = q + 1 := ⟨k - 1, by omega⟩
            have e1 := e1 k (by omega)
            have e2 := e2 k (by omega)
            simp only [rillmeterref22_Records.l1]
            rw [if_pos (by omega), if_pos (by omega), if_pos (by omega), hn (), if_pos c]
            simp only [Int.cast_ofNat_Int] at e1 e2
            rw [e1, Option.bind_some, if_pos c2, ea (), e2, Option.bind_some, if_neg (by omega), ea2 (), ea3 (), if_pos (by omega)]
        · rw [if_neg (by omega)] at e2
          rw [if_pos c, if_pos c1, if_pos c2, if_neg c3] at h
          obtain rfl : R = ([], false) := h
          refine ⟨m1 + m2 + 1, fun k hk => ?_⟩
          obtain ⟨k, rfl⟩ : ∃ q, k = q + 1 := ⟨k - 1, by omega⟩
          have e1 := e1 k (by omega)
          have e2 := e2 k (by omega)
          simp only [rillmeterref22_Records.l1]
          rw [if_pos (by omega), if_pos (by omega), if_pos (by omega), hn (), if_pos c]
          simp only [Int.cast_ofNat_Int] at e1 e2
          rw [e1, Option.bind_some, if_pos c2, ea (), e2, Option.bind_some, if_pos (by decide)]
      · have ea3 : ∀ _ : Unit, wrap64 (((a + 1 : Nat) : Int) + q1) = ((a + 1 + (q1).toNat : Nat) : Int) := by intro _; rw [i64_in _ (by omega) (by omega)]; omega
        by_cases c4 : a + 1 + (q1).toNat ≤ x.size
        · rw [if_pos c, if_pos c1, if_neg c2, if_pos c4] at h
          obtain ⟨m3, h⟩ := h
          refine ⟨m1 + m3 + 1, fun k hk => ?_⟩
          obtain ⟨k, rfl⟩ : ∃ q, k = q + 1 := ⟨k - 1, by omega⟩
          have e1 := e1 k (by omega)
          have h := h k (by omega)
          simp only [rillmeterref22_Records.l1]
          rw [if_pos (by omega), if_pos (by omega), if_pos (by omega), hn (), if_pos c]
          simp only [Int.cast_ofNat_Int] at e1
          rw [e1, Option.bind_some, if_neg c2, if_neg (by omega), ea (), ea3 (), if_neg (by omega), if_pos (by omega), if_pos (by omega), if_pos (by omega), if_pos (by omega), ei ()]
          exact h
        · rw [if_pos c, if_pos c1, if_neg c2, if_neg c4] at h
          obtain rfl : R = ([], false) := h
          refine ⟨m1 + 1, fun k hk => ?_⟩
          obtain ⟨k, rfl⟩ : ∃ q, k = q + 1 := ⟨k - 1, by omega⟩
          have e1 := e1 k (by omega)
          simp only [rillmeterref22_Records.l1]
          rw [if_pos (by omega), if_pos (by omega), if_pos (by omega), hn (), if_pos c]
          simp only [Int.cast_ofNat_Int] at e1
          rw [e1, Option.bind_some, if_neg c2, if_neg (by omega), ea (), ea3 (), if_pos (by omega)]
    · rw [if_neg c1] at e1
      rw [if_pos c, if_neg c1] at h
      obtain rfl : R = ([], false) := h
      refine ⟨m1 + 1, fun k hk => ?_⟩
      obtain ⟨k, rfl⟩ : ∃ q, k = q + 1 := ⟨k - 1, by omega⟩
      have e1 := e1 k (by omega)
      simp only [rillmeterref22_Records.l1]
      rw [if_pos (by omega), if_pos (by omega), if_pos (by omega), hn (), if_pos c]
      simp only [Int.cast_ofNat_Int] at e1
      rw [e1, Option.bind_some, if_neg (by decide), if_pos (by decide)]
  · have ea3 : ∀ _ : Unit, wrap64 ((a : Int) + n) = ((a + n.toNat : Nat) : Int) := by intro _; rw [i64_in _ (by omega) (by omega)]; omega
    by_cases c4 : a + n.toNat ≤ x.size
    · rw [if_neg c, if_pos c4] at h
      refine Evt.step h (fun k => ?_)
      simp only [rillmeterref22_Records.l1]
      rw [if_pos (by omega), if_pos (by omega), if_pos (by omega), hn (), if_neg c, if_neg (by omega), ea3 (), if_neg (by omega), if_pos (by omega), if_pos (by omega), if_pos (by omega), if_pos (by omega), ei (), Int.toNat_natCast, Int.toNat_natCast]
    · rw [if_neg c, if_neg c4] at h
      obtain rfl : R = ([], false) := h
      refine Evt.step (Evt.now (f := fun _ => some _) (fun _ => rfl)) (fun k => ?_)
      simp only [rillmeterref22_Records.l1]
      rw [if_pos (by omega), if_pos (by omega), if_pos (by omega), hn (), if_neg c, if_neg (by omega), ea3 (), if_pos (by omega)]

/-- all fields of one record: where the reading stands behind -/
theorem rrecs_l1 (x : ByteArray) (hx : x.size ≤ 1000000) (out : List (List ByteArray)) (was : Nat) (t : List S82) (ht : t.length ≤ 80) (hf : ∀ y ∈ t, fokB y = true) (id : Int) {R : List (List ByteArray) × Bool} :
    ∀ (d i : Nat) (l : List ByteArray) (a : Nat), i + d = t.length → l.length = i → a ≤ x.size → was ≤ a →
      ((recP (t.drop i) l (suf x a) false).2.2 = true → R = ([], false)) →
      ((recP (t.drop i) l (suf x a) false).2.2 = false → ∀ b : Nat, (recP (t.drop i) l (suf x a) false).2.1 = suf x b → was ≤ b → b ≤ x.size →
        Evt (fun k => rillmeterref22_Records.l1 k x out (b : Int) (was : Int) (recP (t.drop i) l (suf x a) false).1 (t.map cvF) ((t.map cvF).length : Int) ((t.map cvF).length : Int) id (t.map cvF)) R) →
      Evt (fun k => rillmeterref22_Records.l1 k x out (a : Int) (was : Int) l (t.map cvF) ((t.map cvF).length : Int) (i : Int) id (t.map cvF)) R := by
  intro d
  induction d with
  | zero =>
    intro i l a h hl ha hw _ h2
    rw [List.drop_of_length_le (by omega), recP] at h2
    have := h2 rfl a rfl hw ha
    rw [show ((t.map cvF).length : Int) = (i : Int) by rw [List.length_map]; omega] at this ⊢
    exact this
  | succ d ih =>
    intro i l a h hl ha hw h1 h2
    have hm : rd_T82 t (i : Int) ∈ t := by
      have : rd_T82 t (i : Int) ∈ t.drop i := by rw [drop82 t i (by omega)]; exact List.mem_cons_self
      exact List.mem_of_mem_drop this
    have hn := fokB_f1 (hf _ hm)
    rw [drop82 t i (by omega), recP] at h1 h2
    refine rrecs_l1_step x hx out (was : Int) l (by omega) (t.map cvF) id i a ha (by rw [List.length_map]; omega) (by rw [List.length_map]; exact ht) (rd_T82 t (i : Int)).f1 hn.1 hn.2 (fun _ => by rw [rd88 t i (by omega)]; rfl) ?_
    cases e : fieldAt x (rd_T82 t (i : Int)).f1 a with
    | none =>
      have hb := fieldAt_none x _ hn.1 a ha e
      rw [hb] at h1
      exact h1 (recP_bad _ _ _)
    | some p =>
      obtain ⟨v, b⟩ := p
      obtain ⟨e1, e2, e3⟩ := fieldAt_some x _ hn.1 a ha e
      rw [e1] at h1 h2
      exact ih (i + 1) (l ++ [v]) b (by omega) (by simp; omega) e3 (by omega) h1 h2

theorem rrecs_l0 (id : Int) (t : List S82) (ht : t.length ≤ 80) (hf : ∀ y ∈ t, fokB y = true) (x : ByteArray) (hx : x.size ≤ 1000000) : ∀ (m : Nat) (out : List (List ByteArray)) (a : Nat), x.size - a < m → a ≤ x.size → out.length ≤ a →
    Evt (fun k => rillmeterref22_Records.l0 k x out (a : Int) id (t.map cvF)) (if (recsP t m out (suf x a)).2 = 0 then ((recsP t m out (suf x a)).1, true) else ([], false)) := by
  intro m
  induction m with
  | zero => intro out a h; omega
  | succ m ih =>
    intro out a hm ha ho
    by_cases c : a < x.size
    · have hc : ¬ ((suf x a).toList = ([] : List UInt8)) := by rw [toList_nil_iff, suf_size]; omega
      refine Evt.step (g := fun k => rillmeterref22_Records.l1 k x out (a : Int) (a : Int) [] (t.map cvF) ((t.map cvF).length : Int) ((0 : Nat) : Int) id (t.map cvF)) (rrecs_l1 x hx out a t ht hf id t.length 0 [] a (by omega) rfl ha (Nat.le_refl _) ?_ ?_) (fun k => ?_)
      · intro hb
        rw [List.drop_zero] at hb
        rw [recsP, if_neg hc, if_pos hb, if_neg (by decide)]
      · intro hb b hs hw hbx
        rw [List.drop_zero] at hb hs ⊢
        have hz : (recP t [] (suf x a) false).2.1.size = x.size - b := by rw [hs, suf_size]
        rw [recsP, if_neg hc, hb, if_neg (show ¬ (false = true) by decide)]
        by_cases e : b = a
        · subst e
          have hq : (recP t [] (suf x b) false).2.1.size = (suf x b).size := by rw [hz, suf_size]
          rw [if_pos hq, if_neg (show ¬ ((3 : Int) = 0) by decide)]
          refine Evt.step (Evt.now (f := fun _ => some _) (fun _ => rfl)) (fun k => ?_)
          simp only [rillmeterref22_Records.l1]
          rw [if_neg (by omega), if_pos trivial]
        · have hq : ¬ ((recP t [] (suf x a) false).2.1.size = (suf x a).size) := by rw [hz, suf_size]; omega
          rw [if_neg hq, hs]
          refine Evt.step (ih (out ++ [(recP t [] (suf x a) false).1]) b (by omega) hbx (by simp; omega)) (fun k => ?_)
          simp only [rillmeterref22_Records.l1]
          rw [if_neg (by omega), if_neg (by omega), if_pos (by omega)]
      · simp only [rillmeterref22_Records.l0]
        rw [if_pos (by omega)]; rfl
    · have hc : (suf x a).toList = ([] : List UInt8) := by rw [toList_nil_iff, suf_size]; omega
      rw [recsP, if_pos hc, if_pos rfl]
      refine Evt.step (Evt.now (f := fun _ => some _) (fun _ => rfl)) (fun k => ?_)
      simp only [rillmeterref22_Records.l0]
      rw [if_neg (by omega)]
theorem rrecs_spec (id : Int) (t : List S82) (ht : t.length ≤ 80) (hf : ∀ y ∈ t, fokB y = true) (x : ByteArray) (hx : x.size ≤ 1000000) :
    Evt (fun k => rillmeterref22_Records.f k id (t.map cvF) x) (if (recsP t (x.size + 1) [] x).2 = 0 then ((recsP t (x.size + 1) [] x).1, true) else ([], false)) := by
  have h := rrecs_l0 id t ht hf x hx (x.size + 1) [] 0 (by omega) (by omega) (Nat.le_refl _)
  rw [suf_zero] at h
  exact h.eq (fun k => rfl)

theorem same_l0 (l : List ByteArray) (hl : l.length ≤ 1000000) : ∀ (d i : Nat), i + d = l.length → ∃ m, ∀ k, m ≤ k → rillmeterlaw22_same.l0 k l l (l.length : Int) (i : Int) = some true := by
  intro d
  induction d with
  | zero =>
    intro i h
    refine ⟨1, fun k hk => ?_⟩
    obtain ⟨k, rfl⟩ : ∃ q, k = q + 1 := ⟨k - 1, by omega⟩
    unfold rillmeterlaw22_same.l0
    rw [if_neg (by omega)]
  | succ d ih =>
    intro i h
    obtain ⟨m, hm⟩ := ih (i + 1) (by omega)
    refine ⟨m + 1, fun k hk => ?_⟩
    obtain ⟨k, rfl⟩ : ∃ q, k = q + 1 := ⟨k - 1, by omega⟩
    unfold rillmeterlaw22_same.l0
    rw [if_pos (by omega), if_pos (by omega), if_pos (by omega), if_pos (by omega), if_pos rfl, i64_in ((i : Int) + 1) (by omega) (by omega), show (i : Int) + 1 = ((i + 1 : Nat) : Int) by omega]
    exact hm k (by omega)
theorem same_spec (l : List ByteArray) (hl : l.length ≤ 1000000) : ∃ m, ∀ k, m ≤ k → rillmeterlaw22_same.f k l l = some true := by
  obtain ⟨m, hm⟩ := same_l0 l hl l.length 0 (by omega)
  refine ⟨m, fun k hk => ?_⟩
  unfold rillmeterlaw22_same.f
  rw [if_pos rfl]
  exact hm k hk

theorem fieldP_enc (n : Int) (v rest : ByteArray) (h : okV n v = true) : fieldP n (encV n v ++ rest) false = (v, rest, false) := by
  have hok : (n = 65535 ∨ (v.size : Int) = n) ∧ v.size ≤ 65535 := of_decide_eq_true h
  unfold fieldP encV
  by_cases c : n = 65535
  · rw [if_pos c, if_pos c]
    by_cases c2 : v.size < 255
    · rw [if_pos c2, ByteArray.append_assoc, rnumP_app (v.size : Int) 1 (v ++ rest) false (by decide) (by omega) (by simp; omega)]
      simp only
      rw [if_neg (by omega), rtextP_app v rest false _ rfl]
    · rw [if_neg c2, ByteArray.append_assoc, ByteArray.append_assoc, rnumP_app 255 1 (beS v.size 2 ++ (v ++ rest)) false (by decide) (by decide) (by decide)]
      simp only [if_true]
      rw [rnumP_app (v.size : Int) 2 (v ++ rest) false (by decide) (by omega) (by simp; omega)]
      exact rtextP_app v rest false _ rfl
  · rw [if_neg c, if_neg c]
    exact rtextP_app v rest false n (by omega)
theorem recP_enc : ∀ (t : List S82) (vs : List ByteArray) (s rest : ByteArray) (l : List ByteArray), vs.length = t.length → recW (t.map (·.f1)) vs = some s → recP t l (s ++ rest) false = (l ++ vs, rest, false) := by
  intro t
  induction t with
  | nil =>
    intro vs s rest l hl h
    cases vs with
    | nil =>
      simp only [List.map_nil, recW, Option.some.injEq] at h
      subst h
      rw [recP, nil_app, List.append_nil]
    | cons v vs => cases hl
  | cons y t ih =>
    intro vs s rest l hl h
    cases vs with
    | nil => cases hl
    | cons v vs =>
      rw [List.map_cons, recW] at h
      split at h
      · rename_i ok
        cases e : recW (t.map (·.f1)) vs with
        | none => rw [e] at h; cases h
        | some u =>
          rw [e] at h
          simp only [Option.map_some, Option.some.injEq] at h
          subst h
          rw [recP, ByteArray.append_assoc, fieldP_enc _ _ _ ok]
          simp only
          rw [ih vs u rest (l ++ [v]) (by simpa using hl) e, List.append_assoc]
          rfl
      · cases h
theorem recsP_twice (t : List S82) (vs : List ByteArray) (s : ByteArray) (hl : vs.length = t.length) (h : recW (t.map (·.f1)) vs = some s) (hs : s.size ≠ 0) : recsP t ((s ++ s).size + 1) [] (s ++ s) = ([vs, vs], 0) := by
  obtain ⟨m, hm⟩ : ∃ m, (s ++ s).size = m + 1 + 1 := ⟨(s ++ s).size - 2, by rw [ByteArray.size_append]; omega⟩
  have hz : (s ++ s).size = s.size + s.size := ByteArray.size_append
  have h1 := recP_enc t vs s s [] hl h
  have h2 := recP_enc t vs s ⟨#[]⟩ [] hl h
  rw [app_nil] at h2
  rw [hm, recsP, if_neg (by rw [toList_nil_iff]; omega), h1]
  simp only
  rw [if_neg (show ¬ (false = true) by decide), if_neg (by omega), recsP, if_neg (by rw [toList_nil_iff]; exact hs), h2]
  simp only
  rw [if_neg (show ¬ (false = true) by decide), if_neg (show ¬ ((⟨#[]⟩ : ByteArray).size = s.size) by intro e; exact hs e.symm), recsP, if_pos (by simp)]
  rfl

theorem recs_j1 (id : Int) (t : List S82) (vs : List ByteArray) (s : ByteArray) (b : Bool) (m : List (List ByteArray)) (hm : m.length ≤ 1000000) (hr : ∀ r ∈ m, r.length ≤ 1000000)
    (h : Evt (fun k => rillmeterlaw22_IpfixRecords.j3 k vs s (if b = true then (s.toList == ([] : List UInt8)) else true) id t) true) :
    Evt (fun k => rillmeterlaw22_IpfixRecords.j1 k vs s m b m ((m.length : Int) != (m.length : Int)) id t) true := by
  have loop : ∀ (d i : Nat), i + d = m.length → Evt (fun k => rillmeterlaw22_IpfixRecords.l0 k vs s m b m (m.length : Int) (i : Int) id t) true := by
    intro d
    induction d with
    | zero =>
      intro i hi
      refine Evt.step h (fun k => ?_)
      simp only [rillmeterlaw22_IpfixRecords.l0]
      rw [if_neg (by omega)]
      cases b <;> rfl
    | succ d ih =>
      intro i hi
      have hmem : rd_L8 m (i : Int) ∈ m := by
        unfold rd_L8
        rw [Int.toNat_natCast, List.getD_eq_getElem?_getD, List.getElem?_eq_getElem (by omega)]
        exact List.getElem_mem _
      obtain ⟨m2, e2⟩ := same_spec (rd_L8 m (i : Int)) (hr _ hmem)
      obtain ⟨m1, e1⟩ := ih (i + 1) (by omega)
      refine ⟨m1 + m2 + 1, fun k hk => ?_⟩
      obtain ⟨k, rfl⟩ : ∃ q, k = q + 1 := ⟨k - 1, by omega⟩
      have e1 := e1 k (by omega)
      simp only [rillmeterlaw22_IpfixRecords.l0]
      rw [if_pos (by omega), if_pos (by omega), if_pos (by omega), if_pos (by omega), e2 k (by omega), Option.bind_some, if_pos rfl, i64_in ((i : Int) + 1) (by omega) (by omega), show (i : Int) + 1 = ((i + 1 : Nat) : Int) by omega]
      exact e1
  refine Evt.step (loop m.length 0 (by omega)) (fun k => ?_)
  simp only [rillmeterlaw22_IpfixRecords.j1]
  rw [bne_self_eq_false, if_neg (by decide)]
  rfl

theorem IpfixRecords : rillmeterlaw22_IpfixRecords.Pure := by
  intro id t vs data _ ht hvs hd
  have hA : Evt (fun k => rillmeterlaw22_IpfixRecords.j0 k vs data true id t) true := by
    refine Evt.step awake_spec (fun k => ?_)
    simp only [rillmeterlaw22_IpfixRecords.j0]
    rw [if_pos trivial]
    cases rillmeterlaw22_awake.f k <;> rfl
  have hT : ∀ s, Evt (fun k => rillmeterlaw22_IpfixRecords.j3 k vs s true id t) true := by
    intro s
    refine Evt.step awake_spec (fun k => ?_)
    simp only [rillmeterlaw22_IpfixRecords.j3]
    rw [if_pos trivial]
    cases rillmeterlaw22_awake.f k <;> rfl
  have hV : vs.length ≤ 9223372036854775807 := by have := hvs.1; unfold maxLen at this; omega
  by_cases c1 : (t.length : Int) > 80
  · obtain ⟨k, hk⟩ := hA.some_
    exact ⟨k, by unfold rillmeterlaw22_IpfixRecords.f; rw [if_pos c1]; exact hk⟩
  · obtain ⟨r, hr, hrb⟩ := short_spec vs hV
    suffices hj : Evt (fun k => rillmeterlaw22_IpfixRecords.j0 k vs data (if r = true then decide ((data.size : Int) > 4096) else true) id t) true by
      obtain ⟨m1, e1⟩ := hr
      obtain ⟨m2, e2⟩ := hj
      refine ⟨m1 + m2, ?_⟩
      have e1 := e1 (m1 + m2) (by omega)
      have e2 := e2 (m1 + m2) (by omega)
      simp only at e1 e2
      unfold rillmeterlaw22_IpfixRecords.f
      rw [if_neg c1, e1, Option.bind_some]
      cases r <;> exact e2
    cases r with
    | false => exact hA
    | true =>
      rw [if_pos rfl]
      by_cases c2 : (data.size : Int) > 4096
      · rw [decide_eq_true c2]; exact hA
      · rw [decide_eq_false c2]
        obtain ⟨hl80, hv⟩ := hrb rfl
        have ht80 : t.length ≤ 80 := by omega
        obtain ⟨m1, e1⟩ := rec_spec id t vs ht80
        obtain ⟨m2, e2⟩ := recs_spec id t ht80 data (by omega) (trightB id t) (tright_spec id t (by omega))
        obtain ⟨m3, e3⟩ := tref_spec id t (by omega)
        obtain ⟨m4, e4⟩ := sound_spec id t (by omega)
        obtain ⟨m6, e6⟩ := awake_spec
        cases hb : trightB id t with
        | false =>
          rw [hb] at e1 e2 e4
          rw [if_neg (by simp)] at e1
          refine ⟨m1 + m2 + m3 + m4 + m6 + 1, fun k hk => ?_⟩
          obtain ⟨k, rfl⟩ : ∃ q, k = q + 1 := ⟨k - 1, by omega⟩
          have e1 := e1 k (by omega)
          have e2 := e2 k (by omega)
          have e3 := e3 k (by omega)
          have e4 := e4 k (by omega)
          have e6 := e6 k (by omega)
          simp only at e1 e3 e4
          simp only [rillmeterlaw22_IpfixRecords.j0]
          rw [if_neg (by decide), e1, Option.bind_some, e2, Option.bind_some, e3, Option.bind_some, e4, Option.bind_some, if_neg (by decide), if_pos (by simp), if_pos rfl, if_neg (show ¬ (false = true) by decide)]
          refine (if_pos rfl).trans ((if_pos rfl).trans ?_)
          rw [e6]; rfl
        | true =>
          have hf := (trightB_fok hb).2
          obtain ⟨m5, e5⟩ := rrec_spec id t vs ht80
          obtain ⟨m7, e7⟩ := rrecs_spec id t ht80 hf data (by omega)
          rw [hb] at e1 e2 e4
          simp only [if_true, true_and] at e1 e2
          have two := recsP_two t (data.size + 1) [] data
          have hrow := recsP_rows t t.length rfl (data.size + 1) [] data (fun r h => by cases h)
          have hlen := recsP_len t (data.size + 1) [] data (by omega)
          simp only [List.length_nil] at hlen
          -- the record
          obtain ⟨o, ho1, ho2, hob⟩ : ∃ o : Option ByteArray, (if vs.length = t.length then recR ⟨#[]⟩ (recW (t.map (·.f1)) vs) else (⟨#[]⟩, 1)) = recR ⟨#[]⟩ o ∧ (if vs.length = t.length then recT ⟨#[]⟩ (recW (t.map (·.f1)) vs) else (⟨#[]⟩, false)) = recT ⟨#[]⟩ o ∧ (∀ s, o = some s → vs.length = t.length ∧ recW (t.map (·.f1)) vs = some s) := by
            by_cases c : vs.length = t.length
            · exact ⟨recW (t.map (·.f1)) vs, by rw [if_pos c], by rw [if_pos c], fun s h => ⟨c, h⟩⟩
            · exact ⟨none, by rw [if_neg c]; rfl, by rw [if_neg c]; rfl, fun s h => by cases h⟩
          rw [ho1] at e1
          rw [ho2] at e5
          -- what is read, in both tellings
          have hB : ∀ (s : ByteArray) (b : Bool), Evt (fun k => rillmeterlaw22_IpfixRecords.j3 k vs s (if b = true then (s.toList == ([] : List UInt8)) else true) id t) true →
              Evt (fun k => if (((recsP t (data.size + 1) [] data).2 == 0) != (if (recsP t (data.size + 1) [] data).2 = 0 then ((recsP t (data.size + 1) [] data).1, true) else ([], false)).2) = true then rillmeterlaw22_IpfixRecords.j1 k vs s (recsP t (data.size + 1) [] data).1 b (if (recsP t (data.size + 1) [] data).2 = 0 then ((recsP t (data.size + 1) [] data).1, true) else ([], false)).1 true id t
                else (if (if (recsP t (data.size + 1) [] data).2 = 0 then ((recsP t (data.size + 1) [] data).1, true) else ([], false)).2 = true then rillmeterlaw22_IpfixRecords.j1 k vs s (recsP t (data.size + 1) [] data).1 b (if (recsP t (data.size + 1) [] data).2 = 0 then ((recsP t (data.size + 1) [] data).1, true) else ([], false)).1 (((recsP t (data.size + 1) [] data).1.length : Int) != ((if (recsP t (data.size + 1) [] data).2 = 0 then ((recsP t (data.size + 1) [] data).1, true) else ([], false)).1.length : Int)) id t
                else (if (recsP t (data.size + 1) [] data).2 = 3 then rillmeterlaw22_IpfixRecords.j1 k vs s (recsP t (data.size + 1) [] data).1 b (if (recsP t (data.size + 1) [] data).2 = 0 then ((recsP t (data.size + 1) [] data).1, true) else ([], false)).1 (((recsP t (data.size + 1) [] data).1.length : Int) != ((if (recsP t (data.size + 1) [] data).2 = 0 then ((recsP t (data.size + 1) [] data).1, true) else ([], false)).1.length : Int)) id t
                else rillmeterlaw22_IpfixRecords.j1 k vs s (recsP t (data.size + 1) [] data).1 b (if (recsP t (data.size + 1) [] data).2 = 0 then ((recsP t (data.size + 1) [] data).1, true) else ([], false)).1 true id t))) true := by
            intro s b h3
            rcases two with z | z
            · rw [if_pos z, z]
              refine (recs_j1 id t vs s b (recsP t (data.size + 1) [] data).1 (by omega) (fun r hr => by rw [hrow r hr]; omega) h3).eq (fun k => ?_)
              rfl
            · rw [z]
              refine (recs_j1 id t vs s b [] (Nat.zero_le _) (fun r hr => by cases hr) h3).eq (fun k => ?_)
              rfl
          cases o with
          | none =>
            obtain ⟨m8, e8⟩ := hB ⟨#[]⟩ false (hT _)
            refine ⟨m1 + m2 + m3 + m4 + m5 + m6 + m7 + m8 + 1, fun k hk => ?_⟩
            obtain ⟨k, rfl⟩ : ∃ q, k = q + 1 := ⟨k - 1, by omega⟩
            have e1 := e1 k (by omega)
            have e2 := e2 k (by omega)
            have e3 := e3 k (by omega)
            have e4 := e4 k (by omega)
            have e5 := e5 k (by omega)
            have e7 := e7 k (by omega)
            have e8 := e8 k (by omega)
            simp only [recR, recT] at e1 e3 e4 e5 e7 e8
            simp only [rillmeterlaw22_IpfixRecords.j0]
            rw [if_neg (by decide), e1, Option.bind_some, e2, Option.bind_some, e3, Option.bind_some, e4, Option.bind_some, if_pos rfl, e5, Option.bind_some, e7, Option.bind_some, if_pos rfl, if_neg (by decide), if_neg (by decide), if_pos rfl]
            exact e8
          | some s =>
            obtain ⟨hl, hw⟩ := hob s rfl
            have hsz := recW_size 4096 (t.map (·.f1)) vs s hv hw
            have hsz2 : s.size ≤ 330000 := by omega
            have h3 : Evt (fun k => rillmeterlaw22_IpfixRecords.j3 k vs (⟨#[]⟩ ++ s) (if true = true then ((⟨#[]⟩ ++ s : ByteArray).toList == ([] : List UInt8)) else true) id t) true := by
              rw [if_pos rfl, nil_app]
              by_cases c : s.size = 0
              · rw [show (s.toList == ([] : List UInt8)) = true by rw [(toList_nil_iff s).2 c]; rfl]
                exact hT s
              · rw [show (s.toList == ([] : List UInt8)) = false by
                  rw [beq_eq_false_iff_ne]; intro h; exact c ((toList_nil_iff s).1 h)]
                obtain ⟨n1, g1⟩ := recs_spec id t ht80 (s ++ s) (by rw [ByteArray.size_append]; omega) true (hb ▸ tright_spec id t (by omega))
                obtain ⟨n2, g2⟩ := same_spec vs (by omega)
                rw [if_pos rfl, recsP_twice t vs s hl hw c] at g1
                refine ⟨n1 + n2 + m6 + 1, fun k hk => ?_⟩
                obtain ⟨k, rfl⟩ : ∃ q, k = q + 1 := ⟨k - 1, by omega⟩
                have g1 := g1 k (by omega)
                have g2 := g2 k (by omega)
                have e6 := e6 k (by omega)
                simp only [rillmeterlaw22_IpfixRecords.j3]
                rw [if_neg (by decide), if_pos (by omega), g1, Option.bind_some, if_pos rfl, if_pos (by simp), if_pos (by simp)]
                simp only [rd_L8, List.getD_eq_getElem?_getD, Int.toNat_zero, Int.toNat_one, List.getElem?_cons_zero, List.getElem?_cons_succ, Option.getD_some]
                rw [g2, Option.bind_some, if_pos rfl, if_pos (by simp), Option.bind_some, if_pos rfl, e6]
                rfl
            obtain ⟨m8, e8⟩ := hB (⟨#[]⟩ ++ s) true h3
            refine ⟨m1 + m2 + m3 + m4 + m5 + m6 + m7 + m8 + 1, fun k hk => ?_⟩
            obtain ⟨k, rfl⟩ : ∃ q, k = q + 1 := ⟨k - 1, by omega⟩
            have e1 := e1 k (by omega)
            have e2 := e2 k (by omega)
            have e3 := e3 k (by omega)
            have e4 := e4 k (by omega)
            have e5 := e5 k (by omega)
            have e7 := e7 k (by omega)
            have e8 := e8 k (by omega)
            simp only [recR, recT] at e1 e3 e4 e5 e7 e8
            simp only [rillmeterlaw22_IpfixRecords.j0]
            rw [if_neg (by decide), e1, Option.bind_some, e2, Option.bind_some, e3, Option.bind_some, e4, Option.bind_some, if_pos rfl, e5, Option.bind_some, e7, Option.bind_some, if_pos rfl]
            refine (if_neg (show ¬ ((((0 : Int) == 0) != true) = true) by decide)).trans ((if_pos rfl).trans ?_)
            exact e8

end Go.Proofs.Ytojmpdjbhplgkaa.Pure
