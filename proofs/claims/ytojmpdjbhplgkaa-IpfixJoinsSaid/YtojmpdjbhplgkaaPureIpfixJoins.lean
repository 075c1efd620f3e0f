/- The records of two texts of data, one behind the other, are those of the first and then those of the second. No condition beyond the kinds of the arguments. -/
import Derived.Test.YtojmpdjbhplgkaaPIpfixJoinsy
import Derived.Test.YtojmpdjbhplgkaaBits
import Derived.Test.YtojmpdjbhplgkaaEvs
namespace Go.Proofs.Ytojmpdjbhplgkaa.Pure
open Go.RowKit Go.Proofs.Ytojmpdjbhplgkaa.PIpfixJoins Go.Proofs.YtojmpdjbhplgkaaW.PrintWords Go.Proofs.YtojmpdjbhplgkaaW.PrintLast Go.Proofs.Ytojmpdjbhplgkaa.Bits Go.Proofs.Ytojmpdjbhplgkaa.Evs
set_option linter.unusedSimpArgs false
set_option linter.unusedVariables false

theorem within_some (n a b : Int) : ∃ t, ipfix_within.f n a b = some t := by
  unfold ipfix_within.f
  by_cases h : n ≥ a
  · exact ⟨_, if_pos h⟩
  · exact ⟨_, if_neg h⟩
theorem wrong_some (a b c : Int) : ∃ t, ipfix_wrong.f a b c = some t := by
  unfold ipfix_wrong.f
  obtain ⟨t1, h1⟩ := within_some a 0 32768
  obtain ⟨t2, h2⟩ := within_some b 0 65536
  obtain ⟨t3, h3⟩ := within_some c 0 4294967296
  rw [h1, h2, h3]
  cases t1 <;> cases t2 <;> exact ⟨_, rfl⟩
theorem field_any (l : List S82) : ∃ t, ipfix_Field_48.any l = some t := by
  induction l with
  | nil => exact ⟨_, rfl⟩
  | cons y l ih =>
    obtain ⟨t, ht⟩ := ih
    obtain ⟨u, hu⟩ := wrong_some y.f0 y.f1 y.f2
    rw [ipfix_Field_48.any, List.foldr_cons, ← ipfix_Field_48.any, ht, ipfix_Field_48.g, hu, Option.bind_some]
    cases u <;> exact ⟨_, rfl⟩
theorem tright_some (id : Int) (l : List S82) (h : l.length ≤ 9223372036854775807) : ∃ t, ipfix_Template_right.f id l = some t := by
  unfold ipfix_Template_right.f
  obtain ⟨t1, h1⟩ := within_some id 256 65536
  obtain ⟨t2, h2⟩ := within_some (l.length : Int) 1 65
  obtain ⟨t3, h3⟩ := field_any l
  rw [h1, h2, ipfix_Field_48.f, if_pos h, h3]
  cases t1 <;> cases t2 <;> exact ⟨_, rfl⟩

/-- the bytes of a number, the highest first -/
def beB (n : Int) (b : Nat) : List Int := (List.range b).map fun i => n / 2 ^ (8 * (b - 1 - i)) % 256
def beS (n : Int) (b : Nat) : ByteArray := strOfNums (beB n b)
theorem beS_size (n : Int) (b : Nat) : (beS n b).size = b := by simp [beS, strOfNums_size, beB]

theorem beB_swp (n : Int) (b : Nat) : swp (fun j _ => n / 2 ^ (8 * (b - 1 - j)) % 256) b (List.replicate b (0 : Int)) = beB n b := by
  rw [swp_all _ _ _ (by simp)]
  apply List.ext_getElem?
  intro j
  rw [List.getElem?_mapIdx]
  by_cases h : j < b
  · simp [beB, h]
  · simp [beB, h]

theorem oput_l0 (n : Int) (b : Nat) (hb : b ≤ 7) : ∀ (d i : Nat), b - i = d → i ≤ b → Evt (fun k => octet_Put.l0 k n (b : Int) (swp (fun j _ => n / 2 ^ (8 * (b - 1 - j)) % 256) i (List.replicate b 0)) (b : Int) (i : Int)) (beS n b, 0) := by
  intro d
  induction d with
  | zero =>
    intro i h0 hi
    have e : i = b := by omega
    subst e
    refine Evt.step (Evt.now (f := fun _ => some (beS n i, (0 : Int))) (fun _ => rfl)) (fun k => ?_)
    simp only [octet_Put.l0]
    rw [if_neg (by omega), beB_swp]
    rfl
  | succ d ih =>
    intro i h0 hi
    refine Evt.step (ih (i + 1) (by omega) (by omega)) (fun k => ?_)
    simp only [octet_Put.l0]
    have hx : (List.replicate b (0 : Int))[i]? = some 0 := by rw [List.getElem?_replicate, if_pos (by omega)]
    have e : wrap64 (8 * wrap64 (wrap64 ((b : Int) - 1) - (i : Int))) = ((8 * (b - 1 - i) : Nat) : Int) := by
      rw [i64_in ((b : Int) - 1) (by omega) (by omega), i64_in ((b : Int) - 1 - (i : Int)) (by omega) (by omega), i64_in _ (by omega) (by omega)]
      omega
    have e2 : shr .i64 n ((8 * (b - 1 - i) : Nat) : Int) = n / 2 ^ (8 * (b - 1 - i)) := by
      unfold shr
      rw [Int.toNat_natCast, Nat.min_eq_left (show 8 * (b - 1 - i) ≤ IntKind.i64.bits by show _ ≤ 64; omega)]
    rw [e, e2, if_pos (by omega), if_pos (by omega), if_pos (by omega), if_pos (by rw [swp_length, List.length_replicate]; omega), i64_in ((i : Int) + 1) (by omega) (by omega), Int.toNat_natCast, show (i : Int) + 1 = ((i + 1 : Nat) : Int) by omega, ← swp_set (fun j _ => n / 2 ^ (8 * (b - 1 - j)) % 256) i (List.replicate b (0 : Int)) 0 hx]

theorem oput_spec (n : Int) (b : Nat) (h1 : 1 ≤ b) (h7 : b ≤ 7) (h0 : 0 ≤ n) (hn : n < 2 ^ (8 * b)) : Evt (fun k => octet_Put.f k n (b : Int)) (beS n b, 0) := by
  have e2 : (shr .i64 n ((8 * b : Nat) : Int) != 0) = false := by
    unfold shr
    rw [Int.toNat_natCast, Nat.min_eq_left (show 8 * b ≤ IntKind.i64.bits by show _ ≤ 64; omega), Int.ediv_eq_zero_of_lt h0 hn]
    rfl
  have e : wrap64 (8 * (b : Int)) = ((8 * b : Nat) : Int) := by rw [i64_in _ (by omega) (by omega)]; omega
  have hA := oput_l0 n b h7 b 0 (by omega) (by omega)
  rw [swp_zero] at hA
  have hj : Evt (fun k => octet_Put.j0 k n (b : Int) false) (beS n b, 0) := by
    refine Evt.step hA (fun k => ?_)
    simp only [octet_Put.j0]
    rw [if_neg (by decide), if_pos (by omega), if_pos (by omega)]
    simp only [Option.bind_some, Int.toNat_natCast, List.length_replicate]
    rfl
  refine hj.eq (fun k => ?_)
  simp only [octet_Put.f]
  rw [if_neg (by omega), if_neg (by omega), if_neg (by omega), e, if_pos (by omega), e2]

theorem oput_long (n : Int) (b : Nat) (h1 : 1 ≤ b) (h7 : b ≤ 7) (h0 : 0 ≤ n) (hn : 2 ^ (8 * b) ≤ n) : Evt (fun k => octet_Put.f k n (b : Int)) (⟨#[]⟩, 1) := by
  have e2 : (shr .i64 n ((8 * b : Nat) : Int) != 0) = true := by
    unfold shr
    rw [Int.toNat_natCast, Nat.min_eq_left (show 8 * b ≤ IntKind.i64.bits by show _ ≤ 64; omega)]
    have hp : (0 : Int) < 2 ^ (8 * b) := Int.pow_pos (by decide)
    have : 1 ≤ n / 2 ^ (8 * b) := (Int.le_ediv_iff_mul_le hp).2 (by omega)
    exact bne_iff_ne.2 (by omega)
  have e : wrap64 (8 * (b : Int)) = ((8 * b : Nat) : Int) := by rw [i64_in _ (by omega) (by omega)]; omega
  have hj : Evt (fun k => octet_Put.j0 k n (b : Int) true) (⟨#[]⟩, 1) := by
    refine Evt.step (Evt.now (f := fun _ => some ((⟨#[]⟩ : ByteArray), (1 : Int))) (fun _ => rfl)) (fun k => ?_)
    simp only [octet_Put.j0]
    rw [if_pos trivial]
  refine hj.eq (fun k => ?_)
  simp only [octet_Put.f]
  rw [if_neg (by omega), if_neg (by omega), if_neg (by omega), e, if_pos (by omega), e2]

theorem put_spec (n : Int) (b : Nat) (h1 : 1 ≤ b) (h7 : b ≤ 7) (h0 : 0 ≤ n) (hn : n < 2 ^ (8 * b)) : Evt (fun k => ipfix_put.f k n (b : Int)) (beS n b) :=
  (Evt.bind (f := fun k => octet_Put.f k n (b : Int)) (g := fun _ (bt : ByteArray × Int) => some bt.1) (oput_spec n b h1 h7 h0 hn) (Evt.now fun _ => rfl)).eq (fun k => rfl)
theorem put2_spec (n : Int) (h0 : 0 ≤ n) (hn : n < 65536) : ∃ m, ∀ k, m ≤ k → ipfix_put.f k n 2 = some (beS n 2) := put_spec n 2 (by decide) (by decide) h0 (by simpa using hn)
theorem put4_spec (n : Int) (h0 : 0 ≤ n) (hn : n < 4294967296) : ∃ m, ∀ k, m ≤ k → ipfix_put.f k n 4 = some (beS n 4) := put_spec n 4 (by decide) (by decide) h0 (by simpa using hn)
theorem put1_spec (n : Int) (h0 : 0 ≤ n) (hn : n < 256) : ∃ m, ∀ k, m ≤ k → ipfix_put.f k n 1 = some (beS n 1) := put_spec n 1 (by decide) (by decide) h0 (by simpa using hn)
theorem oput2_spec (n : Int) (h0 : 0 ≤ n) (hn : n < 65536) : ∃ m, ∀ k, m ≤ k → octet_Put.f k n 2 = some (beS n 2, 0) := oput_spec n 2 (by decide) (by decide) h0 (by simpa using hn)
theorem oput2_long (n : Int) (hn : 65536 ≤ n) : ∃ m, ∀ k, m ≤ k → octet_Put.f k n 2 = some (⟨#[]⟩, 1) := oput_long n 2 (by decide) (by decide) (by omega) (by simpa using hn)

theorem awake22 : rillmeterlaw22_awake.f 40 = some true := by decide +kernel
theorem awake_spec : ∃ m, ∀ k, m ≤ k → rillmeterlaw22_awake.f k = some true := by
  refine ⟨40, fun k hk => ?_⟩
  induction hk with
  | refl => exact awake22
  | step _ ih => exact rillmeterlaw22_awake.mono _ _ ih

/-- so many bytes, the rest, and how it went -/
def cutP (s : ByteArray) (n : Int) : ByteArray × ByteArray × Int :=
  if n < 0 then (⟨#[]⟩, ⟨#[]⟩, 1) else if (s.size : Int) < n then (⟨#[]⟩, ⟨#[]⟩, 2) else (s.extract 0 n.toNat, s.extract n.toNat s.size, 0)
theorem cut_spec (s : ByteArray) (n : Int) : octet_Cut.f s n = some (cutP s n) := by
  unfold octet_Cut.f cutP
  by_cases h : n < 0
  · rw [if_pos h, if_pos h]
  · rw [if_neg h, if_neg h]
    by_cases g : (s.size : Int) < n
    · rw [if_pos g, if_pos g]
    · rw [if_neg g, if_neg g, if_pos (by omega), if_pos (by omega)]
theorem cutP_ok {s : ByteArray} {n : Int} (h : (cutP s n).2.2 = 0) : 0 ≤ n ∧ n ≤ s.size ∧ cutP s n = (s.extract 0 n.toNat, s.extract n.toNat s.size, 0) := by
  unfold cutP at h ⊢
  by_cases c : n < 0
  · rw [if_pos c] at h; exact absurd h (by decide)
  · rw [if_neg c] at h ⊢
    by_cases g : (s.size : Int) < n
    · rw [if_pos g] at h; exact absurd h (by decide)
    · rw [if_neg g]; exact ⟨by omega, by omega, rfl⟩
theorem cutP_more {s : ByteArray} {n : Int} (b : ByteArray) (h : (cutP s n).2.2 = 0) : cutP (s ++ b) n = ((cutP s n).1, (cutP s n).2.1 ++ b, 0) := by
  obtain ⟨h0, h1, e⟩ := cutP_ok h
  rw [e]
  unfold cutP
  rw [if_neg (by omega), if_neg (by rw [ByteArray.size_append]; omega)]
  refine Prod.ext ?_ (Prod.ext ?_ rfl)
  · show (s ++ b).extract 0 n.toNat = s.extract 0 n.toNat
    rw [ByteArray.extract_append, show n.toNat - s.size = 0 by omega, show 0 - s.size = 0 by omega]
    apply ByteArray.ext
    simp
  · show (s ++ b).extract n.toNat (s ++ b).size = s.extract n.toNat s.size ++ b
    rw [ByteArray.extract_append, ByteArray.size_append, show n.toNat - s.size = 0 by omega, show s.size + b.size - s.size = b.size by omega]
    congr 1
    · apply ByteArray.ext
      rw [ByteArray.data_extract, ByteArray.data_extract]
      apply Array.ext_getElem?
      intro i
      simp only [Array.getElem?_extract, ByteArray.size_data]
      by_cases c : i < s.size - n.toNat
      · rw [if_pos (by omega), if_pos (by omega)]
      · rw [if_neg (by omega), if_neg (by omega)]
    · apply ByteArray.ext
      simp
theorem cutP_le (s : ByteArray) (n : Int) : (cutP s n).2.1.size ≤ s.size := by
  unfold cutP
  by_cases c : n < 0
  · rw [if_pos c]; exact Nat.zero_le _
  · rw [if_neg c]
    by_cases g : (s.size : Int) < n
    · rw [if_pos g]; exact Nat.zero_le _
    · rw [if_neg g]
      show (s.extract n.toNat s.size).size ≤ s.size
      rw [ByteArray.size_extract]; omega

/-- the number that bytes are, from a place on -/
def numA (x : ByteArray) : Nat → Int → Nat → Int
  | 0, acc, _ => acc
  | d + 1, acc, i => numA x d (Go.bits .or .i64 (wrap64 (acc * 256)) (wrap64 (bt x (i : Int)))) (i + 1)
/-- the number at the beginning, the rest, and how it went -/
def takeP (s : ByteArray) (n : Nat) : Int × ByteArray × Int :=
  if (cutP s n).2.2 = 0 then (numA (cutP s n).1 (cutP s n).1.size 0 0, (cutP s n).2.1, 0) else (0, ⟨#[]⟩, (cutP s n).2.2)
theorem take_l0 (x y : ByteArray) (hx : x.size ≤ 1000000) : ∀ (d i : Nat) (acc : Int), i + d = x.size → Evt (fun k => octet_Take.l0 k x y acc (x.size : Int) (i : Int)) (numA x d acc i, y, 0) := by
  intro d
  induction d with
  | zero =>
    intro i acc h
    refine Evt.step (Evt.now (f := fun _ => some (acc, y, (0 : Int))) (fun _ => rfl)) (fun k => ?_)
    simp only [octet_Take.l0]
    rw [if_neg (by omega)]
  | succ d ih =>
    intro i acc h
    refine Evt.step (ih (i + 1) _ (by omega)) (fun k => ?_)
    simp only [octet_Take.l0]
    rw [if_pos (by omega), if_pos (by omega), if_pos (by omega), i64_in ((i : Int) + 1) (by omega) (by omega), show (i : Int) + 1 = ((i + 1 : Nat) : Int) by omega]
theorem take_spec (s : ByteArray) (n : Nat) (h1 : 1 ≤ n) (h7 : n ≤ 7) : Evt (fun k => octet_Take.f k s (n : Int)) (takeP s n) := by
  have hj : Evt (fun k => octet_Take.j0 k s (n : Int) false) (takeP s n) := by
    unfold takeP
    by_cases h : (cutP s n).2.2 = 0
    · rw [if_pos h]
      have hz : (cutP s n).1.size ≤ 1000000 := by
        obtain ⟨a, b, e⟩ := cutP_ok h
        rw [e]
        show (s.extract 0 _).size ≤ _
        rw [ByteArray.size_extract]; omega
      refine Evt.step (take_l0 (cutP s n).1 (cutP s n).2.1 hz _ 0 0 (by omega)) (fun k => ?_)
      simp only [octet_Take.j0]
      rw [if_neg (by decide), cut_spec, Option.bind_some, if_pos h]
      rfl
    · rw [if_neg h]
      refine Evt.step (Evt.now (f := fun _ => some ((0 : Int), (⟨#[]⟩ : ByteArray), (cutP s n).2.2)) (fun _ => rfl)) (fun k => ?_)
      simp only [octet_Take.j0]
      rw [if_neg (by decide), cut_spec, Option.bind_some, if_neg h]
  refine hj.eq (fun k => ?_)
  unfold octet_Take.f
  rw [if_neg (by omega), decide_eq_false (by omega)]
theorem takeP_more {s : ByteArray} {n : Nat} (b : ByteArray) (h : (takeP s n).2.2 = 0) : takeP (s ++ b) n = ((takeP s n).1, (takeP s n).2.1 ++ b, 0) := by
  unfold takeP at h ⊢
  by_cases c : (cutP s n).2.2 = 0
  · rw [if_pos c, cutP_more b c, if_pos rfl]
  · rw [if_neg c] at h; exact absurd h c
theorem takeP_le (s : ByteArray) (n : Nat) : (takeP s n).2.1.size ≤ s.size := by
  unfold takeP
  by_cases c : (cutP s n).2.2 = 0
  · rw [if_pos c]; exact cutP_le s n
  · rw [if_neg c]; exact Nat.zero_le _

/-- a number taken off -/
def rnumP (s : ByteArray) (bad : Bool) (n : Nat) : Int × ByteArray × Bool := if (takeP s n).2.2 = 0 then ((takeP s n).1, (takeP s n).2.1, bad) else (0, ⟨#[]⟩, true)
theorem rnum_spec (s : ByteArray) (bad : Bool) (n : Nat) (h1 : 1 ≤ n) (h7 : n ≤ 7) : ∃ m, ∀ k, m ≤ k → ipfix_reader_num.f k s bad (n : Int) = some (rnumP s bad n) := by
  obtain ⟨m, h⟩ := take_spec s n h1 h7
  refine ⟨m, fun k hk => ?_⟩
  have h2 := h k hk
  simp only at h2
  unfold ipfix_reader_num.f rnumP
  rw [h2, Option.bind_some]
  by_cases c : (takeP s n).2.2 = 0
  · rw [if_pos c, if_pos c]
  · rw [if_neg c, if_neg c]
theorem rnumP_bad (s : ByteArray) (n : Nat) : (rnumP s true n).2.2 = true := by
  unfold rnumP
  split <;> rfl
theorem rnumP_le (s : ByteArray) (bad : Bool) (n : Nat) : (rnumP s bad n).2.1.size ≤ s.size := by
  unfold rnumP
  split
  · exact takeP_le s n
  · exact Nat.zero_le _
theorem rnumP_more {s : ByteArray} {n : Nat} (b : ByteArray) (h : (rnumP s false n).2.2 = false) : rnumP (s ++ b) false n = ((rnumP s false n).1, (rnumP s false n).2.1 ++ b, false) := by
  unfold rnumP at h ⊢
  by_cases c : (takeP s n).2.2 = 0
  · rw [if_pos c, takeP_more b c, if_pos rfl]
  · rw [if_neg c] at h; cases h

/-- a text taken off -/
def rtextP (s : ByteArray) (bad : Bool) (n : Int) : ByteArray × ByteArray × Bool := if (cutP s n).2.2 = 0 then ((cutP s n).1, (cutP s n).2.1, bad) else (⟨#[]⟩, ⟨#[]⟩, true)
theorem rtext_spec (s : ByteArray) (bad : Bool) (n : Int) : ipfix_reader_text.f s bad n = some (rtextP s bad n) := by
  unfold ipfix_reader_text.f rtextP
  rw [cut_spec, Option.bind_some]
  by_cases c : (cutP s n).2.2 = 0
  · rw [if_pos c, if_pos c]
  · rw [if_neg c, if_neg c]
theorem rtextP_bad (s : ByteArray) (n : Int) : (rtextP s true n).2.2 = true := by
  unfold rtextP
  split <;> rfl
theorem rtextP_le (s : ByteArray) (bad : Bool) (n : Int) : (rtextP s bad n).2.1.size ≤ s.size := by
  unfold rtextP
  split
  · exact cutP_le s n
  · exact Nat.zero_le _
theorem rtextP_more {s : ByteArray} {n : Int} (b : ByteArray) (h : (rtextP s false n).2.2 = false) : rtextP (s ++ b) false n = ((rtextP s false n).1, (rtextP s false n).2.1 ++ b, false) := by
  unfold rtextP at h ⊢
  by_cases c : (cutP s n).2.2 = 0
  · rw [if_pos c, cutP_more b c, if_pos rfl]
  · rw [if_neg c] at h; cases h

/-- a text by a field's length -/
def fieldP (n : Int) (s : ByteArray) (bad : Bool) : ByteArray × ByteArray × Bool :=
  if n = 65535 then
    (if (rnumP s bad 1).1 = 255 then rtextP (rnumP (rnumP s bad 1).2.1 (rnumP s bad 1).2.2 2).2.1 (rnumP (rnumP s bad 1).2.1 (rnumP s bad 1).2.2 2).2.2 (rnumP (rnumP s bad 1).2.1 (rnumP s bad 1).2.2 2).1
     else rtextP (rnumP s bad 1).2.1 (rnumP s bad 1).2.2 (rnumP s bad 1).1)
  else rtextP s bad n
theorem fieldP_bad (n : Int) (s : ByteArray) : (fieldP n s true).2.2 = true := by
  unfold fieldP
  split
  · split
    · rw [rnumP_bad, rnumP_bad]; exact rtextP_bad _ _
    · rw [rnumP_bad]; exact rtextP_bad _ _
  · exact rtextP_bad _ _
theorem fieldP_le (n : Int) (s : ByteArray) (bad : Bool) : (fieldP n s bad).2.1.size ≤ s.size := by
  unfold fieldP
  split
  · split
    · exact Nat.le_trans (rtextP_le _ _ _) (Nat.le_trans (rnumP_le _ _ _) (rnumP_le _ _ _))
    · exact Nat.le_trans (rtextP_le _ _ _) (rnumP_le _ _ _)
  · exact rtextP_le _ _ _
theorem fieldP_more {n : Int} {s : ByteArray} (b : ByteArray) (h : (fieldP n s false).2.2 = false) : fieldP n (s ++ b) false = ((fieldP n s false).1, (fieldP n s false).2.1 ++ b, false) := by
  unfold fieldP at h ⊢
  by_cases c : n = 65535
  · rw [if_pos c] at h ⊢
    rw [if_pos c]
    cases e1 : (rnumP s false 1).2.2 with
    | true =>
      rw [e1] at h
      by_cases d : (rnumP s false 1).1 = 255
      · rw [if_pos d, rnumP_bad, rtextP_bad] at h; cases h
      · rw [if_neg d, rtextP_bad] at h; cases h
    | false =>
      rw [rnumP_more b e1]
      rw [e1] at h
      by_cases d : (rnumP s false 1).1 = 255
      · rw [if_pos d] at h ⊢
        rw [if_pos d]
        cases e2 : (rnumP (rnumP s false 1).2.1 false 2).2.2 with
        | true => rw [e2, rtextP_bad] at h; cases h
        | false =>
          rw [e2] at h
          simp only
          rw [rnumP_more b e2]
          exact rtextP_more b h
      · rw [if_neg d] at h ⊢
        rw [if_neg d]
        exact rtextP_more b h
  · rw [if_neg c] at h ⊢
    rw [if_neg c]
    exact rtextP_more b h

/-- a record by the fields -/
def recP : List S82 → List ByteArray → ByteArray → Bool → List ByteArray × ByteArray × Bool
  | [], l, s, bad => (l, s, bad)
  | y :: t, l, s, bad => recP t (l ++ [(fieldP y.f1 s bad).1]) (fieldP y.f1 s bad).2.1 (fieldP y.f1 s bad).2.2
theorem recP_bad : ∀ (t : List S82) (l : List ByteArray) (s : ByteArray), (recP t l s true).2.2 = true := by
  intro t
  induction t with
  | nil => intro l s; rfl
  | cons y t ih => intro l s; rw [recP, fieldP_bad]; exact ih _ _
theorem recP_le : ∀ (t : List S82) (l : List ByteArray) (s : ByteArray) (bad : Bool), (recP t l s bad).2.1.size ≤ s.size := by
  intro t
  induction t with
  | nil => intro l s bad; exact Nat.le_refl _
  | cons y t ih => intro l s bad; rw [recP]; exact Nat.le_trans (ih _ _ _) (fieldP_le _ _ _)
theorem recP_more (b : ByteArray) : ∀ (t : List S82) (l : List ByteArray) (s : ByteArray), (recP t l s false).2.2 = false → recP t l (s ++ b) false = ((recP t l s false).1, (recP t l s false).2.1 ++ b, false) := by
  intro t
  induction t with
  | nil => intro l s _; rfl
  | cons y t ih =>
    intro l s h
    rw [recP] at h
    cases e : (fieldP y.f1 s false).2.2 with
    | true => rw [e, recP_bad] at h; cases h
    | false =>
      rw [e] at h
      rw [recP, recP, fieldP_more b e, e]
      exact ih _ _ h
theorem recP_len : ∀ (t : List S82) (l : List ByteArray) (s : ByteArray) (bad : Bool), (recP t l s bad).1.length = l.length + t.length := by
  intro t
  induction t with
  | nil => intro l s bad; rfl
  | cons y t ih => intro l s bad; rw [recP, ih, List.length_append, List.length_cons]; simp; omega

/-- all records, in at most so many steps -/
def recsP (t : List S82) : Nat → List (List ByteArray) → ByteArray → List (List ByteArray) × Int
  | 0, acc, _ => (acc, 0)
  | m + 1, acc, s => if s.toList = ([] : List UInt8) then (acc, 0) else
      if (recP t [] s false).2.2 = true then ([], 3) else if (recP t [] s false).2.1.size = s.size then ([], 3) else recsP t m (acc ++ [(recP t [] s false).1]) (recP t [] s false).2.1

theorem field_step (k : Nat) (y : S82) (s : ByteArray) (bad : Bool) {α : Type} (g : ByteArray × ByteArray × Bool → Option α) (m1 m2 : Nat)
    (h1 : ∀ k, m1 ≤ k → ipfix_reader_num.f k s bad 1 = some (rnumP s bad 1)) (h2 : ∀ k, m2 ≤ k → ipfix_reader_num.f k (rnumP s bad 1).2.1 (rnumP s bad 1).2.2 2 = some (rnumP (rnumP s bad 1).2.1 (rnumP s bad 1).2.2 2)) (hk : m1 + m2 ≤ k) :
    (if y.f1 = 65535 then ((ipfix_reader_num.f k s bad 1).bind fun bt256 => (if bt256.1 = 255 then ((ipfix_reader_num.f k bt256.2.1 bt256.2.2 2).bind fun bt259 => ((ipfix_reader_text.f bt259.2.1 bt259.2.2 bt259.1).bind g)) else ((ipfix_reader_text.f bt256.2.1 bt256.2.2 bt256.1).bind g))) else ((ipfix_reader_text.f s bad y.f1).bind g)) = g (fieldP y.f1 s bad) := by
  unfold fieldP
  by_cases c : y.f1 = 65535
  · rw [if_pos c, if_pos c, h1 k (by omega), Option.bind_some]
    by_cases d : (rnumP s bad 1).1 = 255
    · rw [if_pos d, if_pos d, h2 k (by omega), Option.bind_some, rtext_spec, Option.bind_some]
    · rw [if_neg d, if_neg d, rtext_spec, Option.bind_some]
  · rw [if_neg c, if_neg c, rtext_spec, Option.bind_some]

theorem recs_l1 (id : Int) (t : List S82) (ht : t.length ≤ 80) (acc : List (List ByteArray)) (hacc : acc.length ≤ 1000000) (L : Int) {R : List (List ByteArray) × Int} :
    ∀ (d i : Nat) (l : List ByteArray) (s : ByteArray) (bad : Bool), i + d = t.length → l.length = i →
      (∃ m, ∀ k, m ≤ k → (if (recP (t.drop i) l s bad).2.2 = true then (some (([] : List (List ByteArray)), (3 : Int))) else (if ((recP (t.drop i) l s bad).2.1.size : Int) = L then (some (([] : List (List ByteArray)), 3)) else (ipfix_Records.l0 k (acc ++ [(recP (t.drop i) l s bad).1]) id t (recP (t.drop i) l s bad).2.1 (recP (t.drop i) l s bad).2.2))) = some R) →
      ∃ m, ∀ k, m ≤ k → ipfix_Records.l1 k acc L l t (t.length : Int) (i : Int) id t s bad = some R := by
  intro d
  induction d with
  | zero =>
    intro i l s bad h0 hl ⟨m, hm⟩
    refine ⟨m + 1, fun k hk => ?_⟩
    obtain ⟨k, rfl⟩ : ∃ q, k = q + 1 := ⟨k - 1, by omega⟩
    have h := hm k (by omega)
    rw [List.drop_of_length_le (by omega), recP] at h
    unfold ipfix_Records.l1
    rw [if_neg (by omega), if_pos (show acc.length < 5864062014805 by omega)]
    exact h
  | succ d ih =>
    intro i l s bad h0 hl ⟨m, hm⟩
    have hd : t.drop i = rd_T82 t (i : Int) :: t.drop (i + 1) := by
      rw [List.drop_eq_getElem_cons (by omega)]
      simp [rd_T82, List.getD_eq_getElem?_getD, show i < t.length by omega]
    obtain ⟨m1, h1⟩ := rnum_spec s bad 1 (by decide) (by decide)
    obtain ⟨m2, h2⟩ := rnum_spec (rnumP s bad 1).2.1 (rnumP s bad 1).2.2 2 (by decide) (by decide)
    rw [hd, recP] at hm
    obtain ⟨m3, h3⟩ := ih (i + 1) (l ++ [(fieldP (rd_T82 t (i : Int)).f1 s bad).1]) _ _ (by omega) (by simp; omega) ⟨m, hm⟩
    refine ⟨m1 + m2 + m3 + 1, fun k hk => ?_⟩
    obtain ⟨k, rfl⟩ : ∃ q, k = q + 1 := ⟨k - 1, by omega⟩
    unfold ipfix_Records.l1
    rw [if_pos (by omega), if_pos (by omega), if_pos (by omega)]
    refine (field_step k (rd_T82 t (i : Int)) s bad (fun bt => if l.length < 8796093022208 then ipfix_Records.l1 k acc L (l ++ [bt.1]) t (t.length : Int) (wrap64 ((i : Int) + 1)) id t bt.2.1 bt.2.2 else none) m1 m2 h1 h2 (by omega)).trans ?_
    rw [if_pos (by omega), i64_in ((i : Int) + 1) (by omega) (by omega), show (i : Int) + 1 = ((i + 1 : Nat) : Int) by omega]
    exact h3 k (by omega)

theorem recs_l0 (id : Int) (t : List S82) (ht : t.length ≤ 80) : ∀ (m : Nat) (acc : List (List ByteArray)) (s : ByteArray), s.size < m → acc.length + s.size ≤ 100000 → ∃ q, ∀ k, q ≤ k → ipfix_Records.l0 k acc id t s false = some (recsP t m acc s) := by
  intro m
  induction m with
  | zero => intro acc s h; omega
  | succ m ih =>
    intro acc s hs ha
    by_cases c : s.toList = ([] : List UInt8)
    · refine ⟨1, fun k hk => ?_⟩
      obtain ⟨k, rfl⟩ : ∃ q, k = q + 1 := ⟨k - 1, by omega⟩
      unfold ipfix_Records.l0 recsP
      rw [if_pos c, if_pos c]
    · have hle := recP_le t [] s false
      have key : ∃ q, ∀ k, q ≤ k → (if (recP (t.drop 0) [] s false).2.2 = true then (some (([] : List (List ByteArray)), (3 : Int))) else (if ((recP (t.drop 0) [] s false).2.1.size : Int) = (s.size : Int) then (some (([] : List (List ByteArray)), 3)) else (ipfix_Records.l0 k (acc ++ [(recP (t.drop 0) [] s false).1]) id t (recP (t.drop 0) [] s false).2.1 (recP (t.drop 0) [] s false).2.2))) = some (recsP t (m + 1) acc s) := by
        rw [List.drop_zero]
        unfold recsP
        rw [if_neg c]
        by_cases b : (recP t [] s false).2.2 = true
        · exact ⟨0, fun k _ => by rw [if_pos b, if_pos b]⟩
        · by_cases e : (recP t [] s false).2.1.size = s.size
          · exact ⟨0, fun k _ => by rw [if_neg b, if_neg b, if_pos (by rw [e]), if_pos e]⟩
          · obtain ⟨q, hq⟩ := ih (acc ++ [(recP t [] s false).1]) (recP t [] s false).2.1 (by omega) (by simp; omega)
            refine ⟨q, fun k hk => ?_⟩
            rw [if_neg b, if_neg b, if_neg (by omega), if_neg e, Bool.eq_false_iff.2 b]
            exact hq k hk
      obtain ⟨q, hq⟩ := recs_l1 id t ht acc (by omega) (s.size : Int) t.length 0 [] s false (by omega) rfl key
      refine ⟨q + 1, fun k hk => ?_⟩
      obtain ⟨k, rfl⟩ : ∃ q, k = q + 1 := ⟨k - 1, by omega⟩
      unfold ipfix_Records.l0
      rw [if_neg c]
      exact hq k (by omega)

theorem recs_spec (id : Int) (t : List S82) (ht : t.length ≤ 80) (s : ByteArray) (hs : s.size ≤ 100000) (b : Bool) (hb : ipfix_Template_right.f id t = some b) :
    ∃ q, ∀ k, q ≤ k → ipfix_Records.f k id t s = some (if b = true then recsP t (s.size + 1) [] s else ([], 1)) := by
  obtain ⟨q, hq⟩ := recs_l0 id t ht (s.size + 1) [] s (by omega) (by simp; omega)
  refine ⟨q, fun k hk => ?_⟩
  unfold ipfix_Records.f abi_NoEscape.f
  rw [hb, Option.bind_some]
  cases b with
  | true => rw [if_pos rfl, if_pos rfl]; exact hq k hk
  | false => rw [if_neg (by decide), if_neg (by decide)]

theorem same_l0 (l : List ByteArray) (hl : l.length ≤ 1000000) : ∀ (d i : Nat), i + d = l.length → ∃ m, ∀ k, m ≤ k → rillmeterlaw22_same.l0 k l l (l.length : Int) (i : Int) = some true := by
  intro d
  induction d with
  | zero =>
    intro i h
    refine ⟨1, fun k hk => ?_⟩
    obtain ⟨k, rfl⟩ : ∃ q, k = q + 1 := ⟨k - 1, by omega⟩
    unfold rillmeterlaw22_same.l0
    rw [if_neg (by omega)]
  | succ d ih =>
    intro i h
    obtain ⟨m, hm⟩ := ih (i + 1) (by omega)
    refine ⟨m + 1, fun k hk => ?_⟩
    obtain ⟨k, rfl⟩ : ∃ q, k = q + 1 := ⟨k - 1, by omega⟩
    unfold rillmeterlaw22_same.l0
    rw [if_pos (by omega), if_pos (by omega), if_pos (by omega), if_pos (by omega), if_pos rfl, i64_in ((i : Int) + 1) (by omega) (by omega), show (i : Int) + 1 = ((i + 1 : Nat) : Int) by omega]
    exact hm k (by omega)
theorem same_spec (l : List ByteArray) (hl : l.length ≤ 1000000) : ∃ m, ∀ k, m ≤ k → rillmeterlaw22_same.f k l l = some true := by
  obtain ⟨m, hm⟩ := same_l0 l hl l.length 0 (by omega)
  refine ⟨m, fun k hk => ?_⟩
  unfold rillmeterlaw22_same.f
  rw [if_pos rfl]
  exact hm k hk

theorem loop_len (s : ByteArray) : ∀ (d i : Nat) (r : List UInt8), i + d = s.size → (ByteArray.toList.loop s i r).length = d + r.length := by
  intro d
  induction d with
  | zero =>
    intro i r h
    unfold ByteArray.toList.loop
    rw [if_neg (by omega)]
    simp
  | succ d ih =>
    intro i r h
    unfold ByteArray.toList.loop
    rw [if_pos (by omega), ih (i + 1) _ (by omega)]
    simp
    omega
theorem toList_nil {s : ByteArray} (h : s.toList = []) : s = ⟨#[]⟩ := by
  have h1 := loop_len s s.size 0 [] (by omega)
  rw [show ByteArray.toList.loop s 0 [] = s.toList from rfl, h] at h1
  have h2 : s.size = 0 := by simpa using h1.symm
  apply ByteArray.ext
  exact Array.eq_empty_of_size_eq_zero h2

theorem empty_app (s : ByteArray) : (⟨#[]⟩ : ByteArray) ++ s = s := by
  apply ByteArray.ext
  simp

theorem recsP_fuel (t : List S82) : ∀ (m m' : Nat) (acc : List (List ByteArray)) (s : ByteArray), s.size < m → s.size < m' → recsP t m acc s = recsP t m' acc s := by
  intro m
  induction m with
  | zero => intro m' acc s h; omega
  | succ m ih =>
    intro m' acc s h h'
    obtain ⟨m', rfl⟩ : ∃ q, m' = q + 1 := ⟨m' - 1, by omega⟩
    unfold recsP
    by_cases c : s.toList = ([] : List UInt8)
    · rw [if_pos c, if_pos c]
    · rw [if_neg c, if_neg c]
      by_cases b : (recP t [] s false).2.2 = true
      · rw [if_pos b, if_pos b]
      · rw [if_neg b, if_neg b]
        by_cases e : (recP t [] s false).2.1.size = s.size
        · rw [if_pos e, if_pos e]
        · rw [if_neg e, if_neg e]
          have := recP_le t [] s false
          exact ih m' _ _ (by omega) (by omega)

theorem recsP_acc (t : List S82) : ∀ (m : Nat) (acc : List (List ByteArray)) (s : ByteArray), recsP t m acc s = (if (recsP t m [] s).2 = 0 then (acc ++ (recsP t m [] s).1, 0) else ([], 3)) := by
  intro m
  induction m with
  | zero => intro acc s; simp [recsP]
  | succ m ih =>
    intro acc s
    unfold recsP
    by_cases c : s.toList = ([] : List UInt8)
    · rw [if_pos c, if_pos c]; simp
    · rw [if_neg c, if_neg c]
      by_cases b : (recP t [] s false).2.2 = true
      · rw [if_pos b, if_pos b]; rfl
      · rw [if_neg b, if_neg b]
        by_cases e : (recP t [] s false).2.1.size = s.size
        · rw [if_pos e, if_pos e]; rfl
        · rw [if_neg e, if_neg e, ih (acc ++ [(recP t [] s false).1]), ih ([] ++ [(recP t [] s false).1])]
          by_cases z : (recsP t m [] (recP t [] s false).2.1).2 = 0
          · rw [if_pos z, if_pos z]; simp
          · rw [if_neg z, if_neg z]; rfl

theorem recsP_join (t : List S82) (b : ByteArray) : ∀ (m : Nat) (acc x : List (List ByteArray)) (a : ByteArray), a.size < m → recsP t m acc a = (x, 0) → ∀ m', (a ++ b).size < m' → recsP t m' acc (a ++ b) = recsP t (b.size + 1) x b := by
  intro m
  induction m with
  | zero => intro acc x a h; omega
  | succ m ih =>
    intro acc x a h hx m' hm
    unfold recsP at hx
    by_cases c : a.toList = ([] : List UInt8)
    · rw [if_pos c] at hx
      have e := toList_nil c
      subst e
      obtain rfl : acc = x := congrArg Prod.fst hx
      rw [empty_app] at hm ⊢
      exact recsP_fuel t _ _ _ _ hm (by omega)
    · rw [if_neg c] at hx
      by_cases d : (recP t [] a false).2.2 = true
      · rw [if_pos d] at hx; exact absurd (show (3 : Int) = 0 from congrArg Prod.snd hx) (by decide)
      · rw [if_neg d] at hx
        have d' := Bool.eq_false_iff.2 d
        by_cases e : (recP t [] a false).2.1.size = a.size
        · rw [if_pos e] at hx; exact absurd (show (3 : Int) = 0 from congrArg Prod.snd hx) (by decide)
        · rw [if_neg e] at hx
          have hle := recP_le t [] a false
          have hj := recP_more b t [] a d'
          obtain ⟨m', rfl⟩ : ∃ q, m' = q + 1 := ⟨m' - 1, by omega⟩
          have hn : ¬ ((a ++ b).toList = ([] : List UInt8)) := by
            intro hn
            have := toList_nil hn
            have h0 : (a ++ b).size = 0 := by rw [this]; rfl
            rw [ByteArray.size_append] at h0
            have ha : a.size = 0 := by omega
            omega
          rw [ByteArray.size_append] at hm
          rw [recsP, if_neg hn, hj]
          rw [if_neg (show ¬ (false = true) by decide), if_neg (show ¬ (((recP t [] a false).2.1 ++ b).size = (a ++ b).size) by rw [ByteArray.size_append, ByteArray.size_append]; omega)]
          exact ih _ _ _ (by omega) hx m' (by rw [ByteArray.size_append]; omega)

theorem recsP_rows (t : List S82) (N : Nat) (hN : t.length = N) : ∀ (m : Nat) (acc : List (List ByteArray)) (s : ByteArray), (∀ r ∈ acc, r.length = N) → ∀ r ∈ (recsP t m acc s).1, r.length = N := by
  intro m
  induction m with
  | zero => intro acc s h; exact h
  | succ m ih =>
    intro acc s h
    unfold recsP
    by_cases c : s.toList = ([] : List UInt8)
    · rw [if_pos c]; exact h
    · rw [if_neg c]
      by_cases b : (recP t [] s false).2.2 = true
      · rw [if_pos b]; intro r hr; cases hr
      · rw [if_neg b]
        by_cases e : (recP t [] s false).2.1.size = s.size
        · rw [if_pos e]; intro r hr; cases hr
        · rw [if_neg e]
          refine ih _ _ (fun r hr => ?_)
          rcases List.mem_append.1 hr with hr | hr
          · exact h r hr
          · rw [List.mem_singleton.1 hr, recP_len]; simp [hN]
theorem recsP_len (t : List S82) : ∀ (m : Nat) (acc : List (List ByteArray)) (s : ByteArray), s.size < m → (recsP t m acc s).1.length ≤ acc.length + s.size := by
  intro m
  induction m with
  | zero => intro acc s h; omega
  | succ m ih =>
    intro acc s h
    unfold recsP
    by_cases c : s.toList = ([] : List UInt8)
    · rw [if_pos c]; show acc.length ≤ _; omega
    · rw [if_neg c]
      by_cases b : (recP t [] s false).2.2 = true
      · rw [if_pos b]; exact Nat.zero_le _
      · rw [if_neg b]
        by_cases e : (recP t [] s false).2.1.size = s.size
        · rw [if_pos e]; exact Nat.zero_le _
        · rw [if_neg e]
          have hle := recP_le t [] s false
          have := ih (acc ++ [(recP t [] s false).1]) (recP t [] s false).2.1 (by omega)
          rw [List.length_append, List.length_singleton] at this
          omega

theorem joins_l0 (x y : List (List ByteArray)) (hx : x.length + y.length ≤ 100000) (hr : ∀ r ∈ x ++ y, r.length ≤ 100000) : ∀ (d i : Nat), i + d = (x ++ y).length → ∃ m, ∀ k, m ≤ k → rillmeterlaw22_IpfixJoins.l0 k x y (x ++ y) (((x ++ y).length : Nat) : Int) (i : Int) = some true := by
  have hrow : ∀ (L : List (List ByteArray)) (i : Nat), rd_L8 L (i : Int) = L.getD i [] := fun L i => by unfold rd_L8; rw [Int.toNat_natCast]
  have hl : (x ++ y).length = x.length + y.length := List.length_append
  intro d
  induction d with
  | zero =>
    intro i h
    obtain ⟨m, hm⟩ := awake_spec
    refine ⟨m + 1, fun k hk => ?_⟩
    obtain ⟨k, rfl⟩ : ∃ q, k = q + 1 := ⟨k - 1, by omega⟩
    unfold rillmeterlaw22_IpfixJoins.l0
    rw [if_neg (by omega), hm k (by omega)]
    rfl
  | succ d ih =>
    intro i h
    obtain ⟨m, hm⟩ := ih (i + 1) (by omega)
    have hmem : (x ++ y).getD i [] ∈ x ++ y := by
      rw [List.getD_eq_getElem?_getD, List.getElem?_eq_getElem (by omega)]
      exact List.getElem_mem _
    obtain ⟨m2, hm2⟩ := same_spec ((x ++ y).getD i []) (by have := hr _ hmem; omega)
    refine ⟨m + m2 + 1, fun k hk => ?_⟩
    obtain ⟨k, rfl⟩ : ∃ q, k = q + 1 := ⟨k - 1, by omega⟩
    unfold rillmeterlaw22_IpfixJoins.l0
    rw [if_pos (by omega)]
    have en : wrap64 ((i : Int) + 1) = ((i + 1 : Nat) : Int) := by rw [i64_in ((i : Int) + 1) (by omega) (by omega)]; omega
    by_cases c : i < x.length
    · have e1 : (x ++ y).getD i [] = x.getD i [] := by
        rw [List.getD_eq_getElem?_getD, List.getD_eq_getElem?_getD, List.getElem?_append_left c]
      rw [if_pos (by omega), if_pos (by omega), if_pos (by omega), hrow, hrow, ← e1, hm2 k (by omega), Option.bind_some, if_pos rfl, if_neg (by omega), en]
      exact hm k (by omega)
    · have e0 : wrap64 ((i : Int) - (x.length : Int)) = ((i - x.length : Nat) : Int) := by rw [i64_in _ (by omega) (by omega)]; omega
      have e1 : (x ++ y).getD i [] = y.getD (i - x.length) [] := by
        rw [List.getD_eq_getElem?_getD, List.getD_eq_getElem?_getD, List.getElem?_append_right (by omega)]
      rw [if_neg (by omega), if_pos (by omega), if_pos (by omega), if_pos (by omega), e0, if_pos (by omega), if_pos (by omega), hrow, hrow, ← e1, hm2 k (by omega), Option.bind_some, if_pos rfl, en]
      exact hm k (by omega)

theorem IpfixJoins : rillmeterlaw22_IpfixJoins.Pure := by
  intro id t a b hid ht ha hb
  obtain ⟨q0, h0⟩ := awake_spec
  have hA : ∃ m, ∀ k, m ≤ k → rillmeterlaw22_IpfixJoins.j0 k a b true id t = some true := by
    refine ⟨q0 + 1, fun k hk => ?_⟩
    obtain ⟨k, rfl⟩ : ∃ q, k = q + 1 := ⟨k - 1, by omega⟩
    simp only [rillmeterlaw22_IpfixJoins.j0]
    rw [if_pos trivial, h0 k (by omega)]
    rfl
  have done : ∀ (c : Bool), (c = false → t.length ≤ 80 ∧ a.size ≤ 1024 ∧ b.size ≤ 1024) → ∃ k, rillmeterlaw22_IpfixJoins.j0 k a b c id t = some true := by
    intro c hc
    cases c with
    | true => obtain ⟨m, hm⟩ := hA; exact ⟨m, hm m (Nat.le_refl _)⟩
    | false =>
      obtain ⟨h1, h2, h3⟩ := hc rfl
      obtain ⟨r, hr⟩ := tright_some id t (by omega)
      obtain ⟨q1, e1⟩ := recs_spec id t h1 a (by omega) r hr
      obtain ⟨q2, e2⟩ := recs_spec id t h1 b (by omega) r hr
      obtain ⟨q3, e3⟩ := recs_spec id t h1 (a ++ b) (by rw [ByteArray.size_append]; omega) r hr
      have hJ : ∀ (X Y Z : List (List ByteArray)) (e : Int), ∃ m, ∀ k, m ≤ k → rillmeterlaw22_IpfixJoins.j1 k X Y Z e true = some true := by
        intro X Y Z e
        refine ⟨q0 + 1, fun k hk => ?_⟩
        obtain ⟨k, rfl⟩ : ∃ q, k = q + 1 := ⟨k - 1, by omega⟩
        simp only [rillmeterlaw22_IpfixJoins.j1]
        rw [if_pos trivial, h0 k (by omega)]
        rfl
      have fin : ∃ m, ∀ k, m ≤ k → (if (if r = true then recsP t (a.size + 1) [] a else ([], 1)).2 = 0 then (rillmeterlaw22_IpfixJoins.j1 k (if r = true then recsP t (a.size + 1) [] a else ([], 1)).1 (if r = true then recsP t (b.size + 1) [] b else ([], 1)).1 (if r = true then recsP t ((a ++ b).size + 1) [] (a ++ b) else ([], 1)).1 (if r = true then recsP t ((a ++ b).size + 1) [] (a ++ b) else ([], 1)).2 ((if r = true then recsP t (b.size + 1) [] b else ([], 1)).2 != 0)) else (rillmeterlaw22_IpfixJoins.j1 k (if r = true then recsP t (a.size + 1) [] a else ([], 1)).1 (if r = true then recsP t (b.size + 1) [] b else ([], 1)).1 (if r = true then recsP t ((a ++ b).size + 1) [] (a ++ b) else ([], 1)).1 (if r = true then recsP t ((a ++ b).size + 1) [] (a ++ b) else ([], 1)).2 true)) = some true := by
        by_cases g1 : (if r = true then recsP t (a.size + 1) [] a else ([], 1)).2 = 0
        · simp only [if_pos g1]
          by_cases g2 : (if r = true then recsP t (b.size + 1) [] b else ([], 1)).2 = 0
          · have hr1 : r = true := by
              cases r with
              | true => rfl
              | false => exact absurd (show (1 : Int) = 0 from g1) (by decide)
            subst hr1
            simp only [if_true] at g1 g2 ⊢
            have ex : recsP t (a.size + 1) [] a = ((recsP t (a.size + 1) [] a).1, 0) := Prod.ext rfl g1
            have hj := recsP_join t b (a.size + 1) [] _ a (by omega) ex ((a ++ b).size + 1) (by omega)
            rw [recsP_acc t (b.size + 1), if_pos g2] at hj
            have hlx := recsP_len t (a.size + 1) [] a (by omega)
            have hly := recsP_len t (b.size + 1) [] b (by omega)
            have hrx := recsP_rows t t.length rfl (a.size + 1) [] a (fun r hr => by cases hr)
            have hry := recsP_rows t t.length rfl (b.size + 1) [] b (fun r hr => by cases hr)
            simp only [List.length_nil] at hlx hly
            rw [hj, g2, show ((0 : Int) != 0) = false from rfl]
            generalize (recsP t (a.size + 1) [] a).1 = X at *
            generalize (recsP t (b.size + 1) [] b).1 = Y at *
            obtain ⟨m, hm⟩ := joins_l0 X Y (by omega) (fun r hr => by
              rcases List.mem_append.1 hr with h | h
              · rw [hrx r h]; omega
              · rw [hry r h]; omega) (X ++ Y).length 0 (by omega)
            refine ⟨m + 2, fun k hk => ?_⟩
            obtain ⟨k, rfl⟩ : ∃ q, k = q + 2 := ⟨k - 2, by omega⟩
            simp only [rillmeterlaw22_IpfixJoins.j1, rillmeterlaw22_IpfixJoins.j2]
            rw [if_neg (by decide), if_pos trivial, i64_in _ (by omega) (by omega), show (((X ++ Y).length : Int) != (X.length : Int) + (Y.length : Int)) = false by rw [List.length_append]; exact bne_eq_false_iff_eq.2 (by omega), if_neg (by decide)]
            exact hm k (by omega)
          · rw [bne_iff_ne.2 g2]
            exact hJ _ _ _ _
        · simp only [if_neg g1]
          exact hJ _ _ _ _
      obtain ⟨q4, e4⟩ := fin
      refine ⟨q1 + q2 + q3 + q4 + 1, ?_⟩
      simp only [rillmeterlaw22_IpfixJoins.j0]
      rw [if_neg (by decide), e1 _ (by omega), Option.bind_some, e2 _ (by omega), Option.bind_some, if_pos (by omega), e3 _ (by omega), Option.bind_some]
      exact e4 _ (by omega)
  unfold rillmeterlaw22_IpfixJoins.f
  by_cases c1 : (t.length : Int) > 80
  · simp only [if_pos c1]; exact done true (fun h => by cases h)
  · simp only [if_neg c1]
    by_cases c2 : (a.size : Int) > 1024
    · simp only [if_pos c2]; exact done true (fun h => by cases h)
    · simp only [if_neg c2]
      exact done _ (fun h => ⟨by omega, by omega, by have := of_decide_eq_false h; omega⟩)

end Go.Proofs.Ytojmpdjbhplgkaa.Pure
