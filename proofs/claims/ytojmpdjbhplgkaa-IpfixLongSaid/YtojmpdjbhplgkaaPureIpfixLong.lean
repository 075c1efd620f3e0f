/- A message with one set of so many bytes of data is refused just if it would have more than 65535 bytes; else it is 20 bytes longer than the data. No condition beyond the kind of the argument. -/
import Derived.Test.YtojmpdjbhplgkaaPIpfixLongx4
import Derived.Test.YtojmpdjbhplgkaaBits
import Derived.Test.YtojmpdjbhplgkaaEvs
namespace Go.Proofs.Ytojmpdjbhplgkaa.Pure
open Go.RowKit Go.Proofs.Ytojmpdjbhplgkaa.PIpfixLong Go.Proofs.YtojmpdjbhplgkaaW.PrintWords Go.Proofs.YtojmpdjbhplgkaaW.PrintLast Go.Proofs.Ytojmpdjbhplgkaa.Bits Go.Proofs.Ytojmpdjbhplgkaa.Evs
set_option linter.unusedSimpArgs false
set_option linter.unusedVariables false

/-- the bytes of a number, the highest first -/
def beB (n : Int) (b : Nat) : List Int := (List.range b).map fun i => n / 2 ^ (8 * (b - 1 - i)) % 256
def beS (n : Int) (b : Nat) : ByteArray := strOfNums (beB n b)
theorem beS_size (n : Int) (b : Nat) : (beS n b).size = b := by simp [beS, strOfNums_size, beB]

theorem beB_swp (n : Int) (b : Nat) : swp (fun j _ => n / 2 ^ (8 * (b - 1 - j)) % 256) b (List.replicate b (0 : Int)) = beB n b := by
  rw [swp_all _ _ _ (by simp)]
  apply List.ext_getElem?
  intro j
  rw [List.getElem?_mapIdx]
  by_cases h : j < b
  · simp [beB, h]
  · simp [beB, h]

theorem oput_l0 (n : Int) (b : Nat) (hb : b ≤ 7) : ∀ (d i : Nat), b - i = d → i ≤ b → Evt (fun k => octet_Put.l0 k n (b : Int) (swp (fun j _ => n / 2 ^ (8 * (b - 1 - j)) % 256) i (List.replicate b 0)) (b : Int) (i : Int)) (beS n b, 0) := by
  intro d
  induction d with
  | zero =>
    intro i h0 hi
    have e : i = b := by omega
    subst e
    refine Evt.step (Evt.now (f := fun _ => some (beS n i, (0 : Int))) (fun _ => rfl)) (fun k => ?_)
    simp only [octet_Put.l0]
    rw [if_neg (by omega), beB_swp]
    rfl
  | succ d ih =>
    intro i h0 hi
    refine Evt.step (ih (i + 1) (by omega) (by omega)) (fun k => ?_)
    simp only [octet_Put.l0]
    have hx : (List.replicate b (0 : Int))[i]? = some 0 := by rw [List.getElem?_replicate, if_pos (by omega)]
    have e : wrap64 (8 * wrap64 (wrap64 ((b : Int) - 1) - (i : Int))) = ((8 * (b - 1 - i) : Nat) : Int) := by
      rw [i64_in ((b : Int) - 1) (by omega) (by omega), i64_in ((b : Int) - 1 - (i : Int)) (by omega) (by omega), i64_in _ (by omega) (by omega)]
      omega
    have e2 : shr .i64 n ((8 * (b - 1 - i) : Nat) : Int) = n / 2 ^ (8 * (b - 1 - i)) := by
      unfold shr
      rw [Int.toNat_natCast, Nat.min_eq_left (show 8 * (b - 1 - i) ≤ IntKind.i64.bits by show _ ≤ 64; omega)]
    rw [e, e2, if_pos (by omega), if_pos (by omega), if_pos (by omega), if_pos (by rw [swp_length, List.length_replicate]; omega), i64_in ((i : Int) + 1) (by omega) (by omega), Int.toNat_natCast, show (i : Int) + 1 = ((i + 1 : Nat) : Int) by omega, ← swp_set (fun j _ => n / 2 ^ (8 * (b - 1 - j)) % 256) i (List.replicate b (0 : Int)) 0 hx]

theorem oput_spec (n : Int) (b : Nat) (h1 : 1 ≤ b) (h7 : b ≤ 7) (h0 : 0 ≤ n) (hn : n < 2 ^ (8 * b)) : Evt (fun k => octet_Put.f k n (b : Int)) (beS n b, 0) := by
  have e2 : (shr .i64 n ((8 * b : Nat) : Int) != 0) = false := by
    unfold shr
    rw [Int.toNat_natCast, Nat.min_eq_left (show 8 * b ≤ IntKind.i64.bits by show _ ≤ 64; omega), Int.ediv_eq_zero_of_lt h0 hn]
    rfl
  have e : wrap64 (8 * (b : Int)) = ((8 * b : Nat) : Int) := by rw [i64_in _ (by omega) (by omega)]; omega
  have hA := oput_l0 n b h7 b 0 (by omega) (by omega)
  rw [swp_zero] at hA
  have hj : Evt (fun k => octet_Put.j0 k n (b : Int) false) (beS n b, 0) := by
    refine Evt.step hA (fun k => ?_)
    simp only [octet_Put.j0]
    rw [if_neg (by decide), if_pos (by omega), if_pos (by omega)]
    simp only [Option.bind_some, Int.toNat_natCast, List.length_replicate]
    rfl
  refine hj.eq (fun k => ?_)
  simp only [octet_Put.f]
  rw [if_neg (by omega), if_neg (by omega), if_neg (by omega), e, if_pos (by omega), e2]

theorem oput_long (n : Int) (b : Nat) (h1 : 1 ≤ b) (h7 : b ≤ 7) (h0 : 0 ≤ n) (hn : 2 ^ (8 * b) ≤ n) : Evt (fun k => octet_Put.f k n (b : Int)) (⟨#[]⟩, 1) := by
  have e2 : (shr .i64 n ((8 * b : Nat) : Int) != 0) = true := by
    unfold shr
    rw [Int.toNat_natCast, Nat.min_eq_left (show 8 * b ≤ IntKind.i64.bits by show _ ≤ 64; omega)]
    have hp : (0 : Int) < 2 ^ (8 * b) := Int.pow_pos (by decide)
    have : 1 ≤ n / 2 ^ (8 * b) := (Int.le_ediv_iff_mul_le hp).2 (by omega)
    exact bne_iff_ne.2 (by omega)
  have e : wrap64 (8 * (b : Int)) = ((8 * b : Nat) : Int) := by rw [i64_in _ (by omega) (by omega)]; omega
  have hj : Evt (fun k => octet_Put.j0 k n (b : Int) true) (⟨#[]⟩, 1) := by
    refine Evt.step (Evt.now (f := fun _ => some ((⟨#[]⟩ : ByteArray), (1 : Int))) (fun _ => rfl)) (fun k => ?_)
    simp only [octet_Put.j0]
    rw [if_pos trivial]
  refine hj.eq (fun k => ?_)
  simp only [octet_Put.f]
  rw [if_neg (by omega), if_neg (by omega), if_neg (by omega), e, if_pos (by omega), e2]

theorem put_spec (n : Int) (b : Nat) (h1 : 1 ≤ b) (h7 : b ≤ 7) (h0 : 0 ≤ n) (hn : n < 2 ^ (8 * b)) : Evt (fun k => ipfix_put.f k n (b : Int)) (beS n b) :=
  (Evt.bind (f := fun k => octet_Put.f k n (b : Int)) (g := fun _ (bt : ByteArray × Int) => some bt.1) (oput_spec n b h1 h7 h0 hn) (Evt.now fun _ => rfl)).eq (fun k => rfl)
theorem put2_spec (n : Int) (h0 : 0 ≤ n) (hn : n < 65536) : ∃ m, ∀ k, m ≤ k → ipfix_put.f k n 2 = some (beS n 2) := put_spec n 2 (by decide) (by decide) h0 (by simpa using hn)
theorem put4_spec (n : Int) (h0 : 0 ≤ n) (hn : n < 4294967296) : ∃ m, ∀ k, m ≤ k → ipfix_put.f k n 4 = some (beS n 4) := put_spec n 4 (by decide) (by decide) h0 (by simpa using hn)
theorem put1_spec (n : Int) (h0 : 0 ≤ n) (hn : n < 256) : ∃ m, ∀ k, m ≤ k → ipfix_put.f k n 1 = some (beS n 1) := put_spec n 1 (by decide) (by decide) h0 (by simpa using hn)
theorem oput2_spec (n : Int) (h0 : 0 ≤ n) (hn : n < 65536) : ∃ m, ∀ k, m ≤ k → octet_Put.f k n 2 = some (beS n 2, 0) := oput_spec n 2 (by decide) (by decide) h0 (by simpa using hn)
theorem oput2_long (n : Int) (hn : 65536 ≤ n) : ∃ m, ∀ k, m ≤ k → octet_Put.f k n 2 = some (⟨#[]⟩, 1) := oput_long n 2 (by decide) (by decide) (by omega) (by simpa using hn)

theorem awake22 : rillmeterlaw22_awake.f 40 = some true := by decide +kernel
theorem awake_spec : ∃ m, ∀ k, m ≤ k → rillmeterlaw22_awake.f k = some true := by
  refine ⟨40, fun k hk => ?_⟩
  induction hk with
  | refl => exact awake22
  | step _ ih => exact rillmeterlaw22_awake.mono _ _ ih

theorem empty_app (s : ByteArray) : (⟨#[]⟩ : ByteArray) ++ s = s := by
  apply ByteArray.ext
  simp

theorem body_nil (s : ByteArray) (hs : s.size ≤ 140737488355328) : ∃ m, ∀ k, m ≤ k → ipfix_Set_body.f k 256 [] s = some s := by
  refine ⟨1, fun k hk => ?_⟩
  obtain ⟨k, rfl⟩ : ∃ m, k = m + 1 := ⟨k - 1, by omega⟩
  simp only [ipfix_Set_body.f, abi_NoEscape.f, Option.bind_some, strings_Builder_WriteString.f]
  rw [if_pos (by show 0 + s.size ≤ 140737488355328; omega)]
  simp only [Option.bind_some, ipfix_Set_body.l0]
  rw [if_neg (by simp), empty_app]
  rfl

theorem right_one (s : ByteArray) : ipfix_Right.f 0 0 0 [⟨256, [], s⟩] = some true := by
  simp [ipfix_Right.f, ipfix_within.f, ipfix_Set_41.f, ipfix_Set_41.any, ipfix_Set_41.g, ipfix_Set_right.f]

theorem put_one (s : ByteArray) (hs : s.size ≤ 70000) : ∃ m, ∀ k, m ≤ k → ∃ X : ByteArray, X.size = s.size + 20 ∧ ipfix_Put.f k 0 0 0 [⟨256, [], s⟩] = some (if s.size ≤ 65515 then (X, 0) else (⟨#[]⟩, 4)) := by
  obtain ⟨m1, h1⟩ := body_nil s (by omega)
  obtain ⟨m2, h2⟩ := put2_spec 256 (by decide) (by decide)
  obtain ⟨m3, h3⟩ := put2_spec 10 (by decide) (by decide)
  obtain ⟨m4, h4⟩ := put4_spec 0 (by decide) (by decide)
  have e1 : wrap64 ((s.size : Int) + 4) = (s.size : Int) + 4 := i64_in _ (by omega) (by omega)
  by_cases c : s.size + 4 < 65536
  · obtain ⟨m5, h5⟩ := oput2_spec ((s.size : Int) + 4) (by omega) (by omega)
    have hz : ((⟨#[]⟩ : ByteArray) ++ (beS 256 2 ++ beS ((s.size : Int) + 4) 2 ++ s)).size = s.size + 4 := by
      rw [empty_app, ByteArray.size_append, ByteArray.size_append, beS_size, beS_size]; omega
    have e2 : wrap64 (16 + ((((⟨#[]⟩ : ByteArray) ++ (beS 256 2 ++ beS ((s.size : Int) + 4) 2 ++ s)).size : Nat) : Int)) = (s.size : Int) + 20 := by
      rw [hz, i64_in _ (by omega) (by omega)]; omega
    have hb0 : ∀ n b, (beS n b).size = b := beS_size
    by_cases d : s.size ≤ 65515
    · obtain ⟨m6, h6⟩ := oput2_spec ((s.size : Int) + 20) (by omega) (by omega)
      refine ⟨m1 + m2 + m3 + m4 + m5 + m6 + 2, fun k hk => ⟨beS 10 2 ++ beS ((s.size : Int) + 20) 2 ++ beS 0 4 ++ beS 0 4 ++ beS 0 4 ++ (⟨#[]⟩ ++ (beS 256 2 ++ beS ((s.size : Int) + 4) 2 ++ s)), ?_, ?_⟩⟩
      · rw [ByteArray.size_append, hz]
        simp only [ByteArray.size_append, hb0]
        omega
      · obtain ⟨k, rfl⟩ : ∃ m, k = m + 2 := ⟨k - 2, by omega⟩
        simp only [ipfix_Put.f]
        rw [right_one]
        simp only [Option.bind_some, abi_NoEscape.f, if_true, List.length_singleton, ipfix_Put.l0]
        rw [if_pos (by decide), if_pos (by decide), if_pos (by decide), show rd_T29 [⟨256, [], s⟩] 0 = ⟨256, [], s⟩ from rfl]
        simp only []
        rw [h1 _ (by omega)]
        rw [Option.bind_some]
        rw [e1, h5 _ (by omega)]
        rw [Option.bind_some, if_pos rfl]
        rw [h2 _ (by omega)]
        rw [Option.bind_some]
        simp only [strings_Builder_WriteString.f]
        rw [if_pos (by rw [hb0, hb0]; decide), if_pos (by rw [ByteArray.size_append, hb0, hb0]; omega), if_pos (by rw [ByteArray.size_append, ByteArray.size_append, hb0, hb0, show (⟨#[]⟩ : ByteArray).size = 0 from rfl]; omega)]
        rw [Option.bind_some]
        simp only [ipfix_Put.l0]
        rw [if_neg (by rw [i64_in _ (by omega) (by omega)]; omega)]
        simp only [strings_Builder_Len.f]
        rw [Option.bind_some]
        rw [e2, h6 _ (by omega)]
        rw [Option.bind_some, if_pos rfl]
        rw [h3 _ (by omega)]
        rw [Option.bind_some]
        rw [if_pos (by rw [hb0, hb0]; decide), h4 _ (by omega)]
        rw [Option.bind_some, if_pos (by simp only [ByteArray.size_append, hb0]; omega), Option.bind_some, if_pos (by simp only [ByteArray.size_append, hb0]; omega), Option.bind_some, if_pos (by simp only [ByteArray.size_append, hb0]; omega)]
        simp only [strings_Builder_String.f]
        rw [Option.bind_some]
        rw [if_pos (by rw [hz]; simp only [ByteArray.size_append, hb0]; omega), if_pos d]
    · obtain ⟨m6, h6⟩ := oput2_long ((s.size : Int) + 20) (by omega)
      refine ⟨m1 + m2 + m3 + m4 + m5 + m6 + 2, fun k hk => ⟨beS 10 2 ++ beS ((s.size : Int) + 20) 2 ++ beS 0 4 ++ beS 0 4 ++ beS 0 4 ++ (⟨#[]⟩ ++ (beS 256 2 ++ beS ((s.size : Int) + 4) 2 ++ s)), ?_, ?_⟩⟩
      · rw [ByteArray.size_append, hz]
        simp only [ByteArray.size_append, hb0]
        omega
      · obtain ⟨k, rfl⟩ : ∃ m, k = m + 2 := ⟨k - 2, by omega⟩
        simp only [ipfix_Put.f]
        rw [right_one]
        simp only [Option.bind_some, abi_NoEscape.f, if_true, List.length_singleton, ipfix_Put.l0]
        rw [if_pos (by decide), if_pos (by decide), if_pos (by decide), show rd_T29 [⟨256, [], s⟩] 0 = ⟨256, [], s⟩ from rfl]
        simp only []
        rw [h1 _ (by omega)]
        rw [Option.bind_some]
        rw [e1, h5 _ (by omega)]
        rw [Option.bind_some, if_pos rfl]
        rw [h2 _ (by omega)]
        rw [Option.bind_some]
        simp only [strings_Builder_WriteString.f]
        rw [if_pos (by rw [hb0, hb0]; decide), if_pos (by rw [ByteArray.size_append, hb0, hb0]; omega), if_pos (by rw [ByteArray.size_append, ByteArray.size_append, hb0, hb0, show (⟨#[]⟩ : ByteArray).size = 0 from rfl]; omega)]
        rw [Option.bind_some]
        simp only [ipfix_Put.l0]
        rw [if_neg (by rw [i64_in _ (by omega) (by omega)]; omega)]
        simp only [strings_Builder_Len.f]
        rw [Option.bind_some]
        rw [e2, h6 _ (by omega)]
        rw [Option.bind_some]
        rw [if_neg (by decide), if_neg d]
  · obtain ⟨m5, h5⟩ := oput2_long ((s.size : Int) + 4) (by omega)
    refine ⟨m1 + m2 + m3 + m4 + m5 + 2, fun k hk => ⟨s ++ beS 0 20, by rw [ByteArray.size_append, beS_size], ?_⟩⟩
    obtain ⟨k, rfl⟩ : ∃ m, k = m + 2 := ⟨k - 2, by omega⟩
    simp only [ipfix_Put.f]
    rw [right_one]
    simp only [Option.bind_some, abi_NoEscape.f, if_true, List.length_singleton, ipfix_Put.l0]
    rw [if_pos (by decide), if_pos (by decide), if_pos (by decide), show rd_T29 [⟨256, [], s⟩] 0 = ⟨256, [], s⟩ from rfl]
    simp only []
    rw [h1 _ (by omega)]
    rw [Option.bind_some]
    rw [e1, h5 _ (by omega)]
    rw [Option.bind_some]
    rw [if_neg (by decide), if_neg (by omega)]

theorem IpfixLong : rillmeterlaw22_IpfixLong.Pure := by
  intro a ha
  have hb : -128 ≤ a ∧ a < 128 := by
    simp only [Lit.wf] at ha
    have h1 := Bool.and_eq_true_iff.1 ha
    have h2 := of_decide_eq_true h1.1
    have h3 := of_decide_eq_true h1.2
    have e1 : IntKind.i8.min = -128 := by decide
    have e2 : IntKind.i8.max = 127 := by decide
    omega
  have e0 : wrap64 (65515 + wrap64 a) = 65515 + a := by rw [i64_in a (by omega) (by omega), i64_in _ (by omega) (by omega)]
  obtain ⟨n, hn⟩ : ∃ n : Nat, 65515 + a = (n : Int) := ⟨(65515 + a).toNat, by omega⟩
  have hz : (strOfNums (List.replicate n 0)).size = n := by rw [strOfNums_size, List.length_replicate]
  obtain ⟨m1, h1⟩ := put_one (strOfNums (List.replicate n 0)) (by rw [hz]; omega)
  obtain ⟨m2, h2⟩ := awake_spec
  refine ⟨m1 + m2, ?_⟩
  obtain ⟨X, hX, h3⟩ := h1 (m1 + m2) (by omega)
  simp only [rillmeterlaw22_IpfixLong.f]
  rw [e0, hn, Int.toNat_natCast, if_pos (by omega), if_pos (by omega), h3]
  rw [hz] at hX
  simp only [Option.bind_some, hz]
  by_cases c : n ≤ 65515
  · rw [if_pos c, if_neg (by omega), i64_in _ (by omega) (by omega), if_pos (by rw [hX]; omega), if_pos rfl, h2 _ (by omega)]
    rfl
  · rw [if_neg c, if_pos (by omega), if_pos (by decide +kernel), if_pos rfl, h2 _ (by omega)]
    rfl

end Go.Proofs.Ytojmpdjbhplgkaa.Pure
