/- strings.Builder in this program: what a variable of that type holds, what stays while it is written, and its four methods' contracts. The kit's own lemmas (Lib.IsBuilderF, Lib.OthersKept) are imported. Condition: the program's own types 72 (Builder), 5 (uint8). -/
import Derived.Test.YtojmpdjbhplgkaaProg
import Derived.Test.YtojmpdjbhplgkaaWWords
import Derived.Test.YtojmpdjbhplgkaaWMore
import Derived.Test.YtojmpdjbhplgkaaWApart
import Derived.Shelf.Strings.BuilderK
import Derived.KernelRfl
namespace Go.Proofs.Ytojmpdjbhplgkaa.Built
open Go Go.RowKit Go.Shelf Go.Proofs Go.Proofs.YtojmpdjbhplgkaaW.PrintWords

/-- the numbers that the kit's contracts name, as this program has them -/
def rho : Ren := ⟨fun n => if n = 169 then 33 else if n = 170 then 32 else n, fun t => if t = 37 then 26 else if t = 127 then 100 else t, id⟩

theorem lays33 : Lays.n169 Try.prog rho where
  mixed := by kernel_rfl
  f169 := by kernel_rfl
  t0 := Try.underlying0
  a0 := Try.isAgg0
  z0 := Try.sizeOf0
  v0 := Try.zeroValue0
  t3 := Try.underlying3
  a3 := Try.isAgg3
  z3 := Try.sizeOf3
  v3 := Try.zeroValue3
  t9 := Try.underlying9
  a9 := Try.isAgg9
  z9 := Try.sizeOf9
  v9 := Try.zeroValue9
  t37 := Try.underlying26
  a37 := Try.isAgg26
  z37 := Try.sizeOf26
  v37 := Try.zeroValue26
  t70 := Try.underlying70
  a70 := Try.isAgg70
  z70 := Try.sizeOf70
  v70 := Try.zeroValue70
  t72 := Try.underlying72
  a72 := Try.isAgg72
  z72 := Try.sizeOf72
  v72 := Try.zeroValue72
  t127 := Try.underlying100
  a127 := Try.isAgg100
  z127 := Try.sizeOf100
  v127 := Try.zeroValue100
theorem lays32 : Lays.n170 Try.prog rho where
  mixed := by kernel_rfl
  f170 := by kernel_rfl
  t0 := Try.underlying0
  a0 := Try.isAgg0
  z0 := Try.sizeOf0
  v0 := Try.zeroValue0
  t3 := Try.underlying3
  a3 := Try.isAgg3
  z3 := Try.sizeOf3
  v3 := Try.zeroValue3
  t37 := Try.underlying26
  a37 := Try.isAgg26
  z37 := Try.sizeOf26
  v37 := Try.zeroValue26
  t70 := Try.underlying70
  a70 := Try.isAgg70
  z70 := Try.sizeOf70
  v70 := Try.zeroValue70
  t72 := Try.underlying72
  a72 := Try.isAgg72
  z72 := Try.sizeOf72
  v72 := Try.zeroValue72
theorem extra : Builder.Extra Try.prog rho where
  sizeBuilder := by kernel_rfl
  liesBuilder := by kernel_rfl
  t5 := Try.underlying5
  a5 := Try.isAgg5
  z5 := Try.sizeOf5
  v5 := Try.zeroValue5
  infoByte := by kernel_rfl
  cellsByte := by kernel_rfl
  sizeByte := by kernel_rfl
  neB5 := by decide

/-- a builder at block g that holds the bytes f0; what it leads to was laid behind w0 (the truth f1 is not used) -/
def IsBld (w0 W : World) (g : Nat) (f0 : ByteArray) (_f1 : Bool) : Prop := Lib.IsBuilderF 72 5 w0.heap.size g (Lib.strCells f0) W ∧ w0.heap.size ≤ W.heap.size

/-- all blocks but a builder's, and rows of bytes, stay -/
def KeepT (w w' : World) (g : Nat) : Prop := Lib.OthersKept 5 (some g) w w'
def NotBytes : Obj → Prop
  | .cells _ t _ => t ≠ 5
  | _ => True
@[simp] theorem notBytes_cells {cs : Array Value} {t : TypeId} {f : Nat × Nat} : NotBytes (.cells cs t f) = (t ≠ 5) := rfl
theorem KeepT.blk {w w' : World} {g : Nat} (h : KeepT w w' g) {g' : Nat} {o : Obj} (hb : w.heap[g']? = some o) (hne : g' ≠ g) (ht : NotBytes o) : w'.heap[g']? = some o :=
  h g' o hb (fun e => hne (Option.some.inj e)) (fun c fz e => by subst e; exact ht rfl)

/-- a block that is no row of bytes, in whatever world -/
def NonB (W : World) (k : Nat) : Prop := ∀ c fz, W.heap[k]? ≠ some (.cells c 5 fz)
theorem NonB.of {W : World} {k : Nat} {o : Obj} (h : W.heap[k]? = some o) (ht : NotBytes o) : NonB W k := fun c fz e => by
  rw [h] at e
  injection e with e
  subst e
  exact ht rfl
theorem NonB.set {W : World} {k : Nat} (h : NonB W k) (p : Addr) (v : Value) : NonB (W.setCell p v) k := by
  intro c fz e
  by_cases hp : p.block = k
  · subst hp
    simp only [World.setCell, Array.getElem?_modify] at e
    split at e
    · rename_i h1
      cases ho : W.heap[p.block]? with
      | none => rw [ho] at e; cases e
      | some o =>
        rw [ho] at e
        simp only [Option.map_some, Option.some.injEq] at e
        cases o with
        | cells cs t f => simp only at e; injection e with e1 e2 e3; subst e2; exact h _ _ ho
        | _ => all_goals (first | (cases e; done) | (simp at e; done))
    · exact h _ _ e
  · rw [Below.heap_setCell _ _ _ _ (fun e => hp e.symm)] at e
    exact h _ _ e
theorem NonB.drewN {W : World} {k : Nat} (h : NonB W k) (n : Nat) : NonB (W.drewN n) k := h
theorem NonB.drew {W : World} {k : Nat} (h : NonB W k) : NonB W.drew k := h

theorem BAt.kept {B b : Nat} {p : Value} {bs : List Value} {w w' : World} {row : Option Nat} (h : Lib.BuilderAtF 72 5 B b p bs w) (hw : w.grownBy w' row) (h1 : some b ≠ row) (h2 : ∀ k, row = some k → NonB w k) : Lib.BuilderAtF 72 5 B b p bs w' := by
  obtain ⟨hB, v, hb, hown, hne⟩ := h
  refine ⟨hB, v, ?_, hown.kept hw ?_, hne⟩
  · rw [hw.block b (Lib.BuilderAtF.lt ⟨hB, v, hb, hown, hne⟩) h1]; exact hb
  · cases hv : v.ownBlock with
    | none => exact .inl rfl
    | some k =>
      refine .inr ?_
      intro e
      obtain ⟨c, fz, hc⟩ := Lib.ownsRowF_kind hown k hv
      exact h2 k e.symm c fz hc
theorem IsBld.kept_ {w0 W W1 : World} {g : Nat} {f0 : ByteArray} {f1 : Bool} {row : Option Nat} (h : IsBld w0 W g f0 f1) (hw : W.grownBy W1 row) (h1 : some g ≠ row) (h2 : ∀ k, row = some k → NonB W k) : IsBld w0 W1 g f0 f1 :=
  ⟨h.1.elim (fun x => .inl (BAt.kept x hw h1 h2)) (fun x => .inr (BAt.kept x hw h1 h2)), Nat.le_trans h.2 hw.size⟩
theorem IsBld.below {w0 W W1 : World} {g : Nat} {f0 : ByteArray} {f1 : Bool} (h : IsBld w0 W g f0 f1) (hw : Below W.heap.size W W1) : IsBld w0 W1 g f0 f1 := h.kept_ (grown_of_below hw none) (by simp) (fun _ e => by cases e)
theorem IsBld.alloc {w0 W : World} {g : Nat} {f0 : ByteArray} {f1 : Bool} (h : IsBld w0 W g f0 f1) (o : Obj) : IsBld w0 (W.alloc o) g f0 f1 := h.below (below_alloc (Below.refl _ _) o)
theorem IsBld.drewN {w0 W : World} {g : Nat} {f0 : ByteArray} {f1 : Bool} (h : IsBld w0 W g f0 f1) (m : Nat) : IsBld w0 (W.drewN m) g f0 f1 := h
theorem IsBld.drew {w0 W : World} {g : Nat} {f0 : ByteArray} {f1 : Bool} (h : IsBld w0 W g f0 f1) : IsBld w0 W.drew g f0 f1 := h
theorem IsBld.at_ {w0 W : World} {g : Nat} {f0 : ByteArray} {f1 : Bool} {w' : World} {m : Nat} (hq : W.drewN m = w') (h : IsBld w0 W g f0 f1) : IsBld w0 w' g f0 f1 := by subst hq; exact IsBld.drewN h m
theorem IsBld.at2 {w0 W : World} {g : Nat} {f0 : ByteArray} {f1 : Bool} (h : IsBld w0 W g f0 f1) : ∃ p v, W.heap[g]? = some (.cells #[p, v] 72 (0, 0)) ∧ w0.heap.size ≤ g := by
  rcases h.1 with ⟨hB, v, hb, _⟩ | ⟨hB, v, hb, _⟩
  · exact ⟨_, v, hb, hB⟩
  · exact ⟨_, v, hb, hB⟩
theorem IsBld.lt {w0 W : World} {g : Nat} {f0 : ByteArray} {f1 : Bool} (h : IsBld w0 W g f0 f1) : g < W.heap.size := by
  obtain ⟨p, v, hb, _⟩ := h.at2
  exact blk_lt hb
theorem IsBld.ge {w0 W : World} {g : Nat} {f0 : ByteArray} {f1 : Bool} (h : IsBld w0 W g f0 f1) : w0.heap.size ≤ g := by
  obtain ⟨p, v, _, hg⟩ := h.at2
  exact hg
theorem IsBld.ne_blk {w0 W : World} {g : Nat} {f0 : ByteArray} {f1 : Bool} {a : Nat} {cs : Array Value} {t : TypeId} {fr : Nat × Nat} (h : IsBld w0 W g f0 f1) (hb2 : W.heap[a]? = some (.cells cs t fr)) (ht : t ≠ 72) : g ≠ a := by
  obtain ⟨p, v, hb, hg⟩ := h.at2
  rintro rfl
  rw [hb] at hb2
  injection hb2 with hb2
  injection hb2 with _ ht2
  exact ht ht2.symm
theorem IsBld.far {w0 W : World} {g : Nat} {f0 : ByteArray} {f1 : Bool} {p : Addr} (h : IsBld w0 W g f0 f1) (hne : g ≠ p.block) (u : Value) (hn : NonB W p.block) : IsBld w0 (W.setCell p u) g f0 f1 :=
  h.kept_ (row := some p.block) ⟨rfl, rfl, rfl, by simp [World.setCell], fun k _ hk => Below.heap_setCell _ _ _ _ (fun e => hk (by simp [e]))⟩ (fun e => hne (Option.some.inj e)) (fun k e => by cases e; exact hn)
theorem IsBld.new {w0 W : World} {g : Nat} {f0 : ByteArray} {f1 : Bool} (hb : W.heap[g]? = some (.cells #[.pointer none, .slice none 0 0] 72 (0, 0))) (hg : w0.heap.size ≤ g) (e : f0 = ⟨#[]⟩) : IsBld w0 W g f0 f1 := by
  subst e
  exact ⟨.inl ⟨hg, _, hb, World.ownsRowF_nil W _ 5 1, by simp [Value.ownBlock]⟩, Nat.le_trans hg (Nat.le_of_lt (blk_lt hb))⟩

theorem strCells_bytes (s : ByteArray) : Lib.strCells s = Lib.byteCells s.data.toList := by
  first | rfl | (simp [Lib.strCells, Lib.byteCells])

set_option maxHeartbeats 2000000 in
set_option maxRecDepth 100000 in
theorem check_used (b : Nat) (w : World) (h0 : w.cell? ⟨b, 0, none⟩ = some (.pointer (some ⟨b, 0, none⟩))) :
    Calls Try.prog 47 #[.pointer (some ⟨b, 0, none⟩)] w fun e w' => e = .returned (.tuple #[]) ∧ w' = w := by
  obtain ⟨j, hj, _⟩ := Option.map_eq_some_iff.1 extra.sizeBuilder
  have hj' : Try.prog.info? 72 = some j := hj
  go_enter Try.func47, Try.ntmps47
  go_wp2
  rw [Lib.run_neq_ptr_same w _ Try.underlying70 hj']
  go_wp2
  go_end0
  exact ⟨rfl, rfl⟩

set_option maxHeartbeats 2000000 in
set_option maxRecDepth 100000 in
theorem check_fresh (b : Nat) (w : World) (h0 : w.cell? ⟨b, 0, none⟩ = some (.pointer none)) (hsh : w.shape? b = some (72, 2)) (hfz : w.frozen? ⟨b, 0, none⟩ = false) :
    Calls Try.prog 47 #[.pointer (some ⟨b, 0, none⟩)] w fun e w' => e = .returned (.tuple #[]) ∧ w' = w.setCell ⟨b, 0, none⟩ (.pointer (some ⟨b, 0, none⟩)) := by
  obtain ⟨j, hj0, hjs⟩ := Option.map_eq_some_iff.1 extra.sizeBuilder
  have hj : Try.prog.info? 72 = some j := hj0
  go_enter Try.func47, Try.ntmps47
  go_wp2
  rw [Lib.run_to_unsafe w ⟨b, 0, none⟩ Try.underlying70 Try.underlying112 hj (by rw [hjs]; decide) hsh (Nat.zero_lt_succ 1)]
  simp only [Result.andThen]
  rw [Oper.upon_value]
  go_wp2
  rw [run_callFunc_extern Try.func57 (by kernel_rfl) (by kernel_rfl) (by kernel_rfl) (e := Extern.AbiNoEscape.same) (by kernel_rfl)]
  rw [Lib.run_noEscape]
  simp only [Result.andThen]
  rw [Oper.upon_value]
  go_wp2
  rw [Lib.run_from_unsafe w ⟨b, 0, none⟩ Try.underlying112 Try.underlying70 hj hsh extra.liesBuilder]
  simp only [Result.andThen]
  rw [Oper.upon_value]
  go_wp2
  go_end0
  exact ⟨rfl, rfl⟩

theorem check (B b : Nat) (bs : List Value) (w : World) (h : Lib.IsBuilderF 72 5 B b bs w) :
    Calls Try.prog 47 #[.pointer (some ⟨b, 0, none⟩)] w fun e w' => e = .returned (.tuple #[]) ∧ (Lib.BuilderAtF 72 5 B b (.pointer (some ⟨b, 0, none⟩)) bs w' ∧ Below B w w' ∧ Lib.OthersKept 5 (some b) w w') := by
  rcases h with h | h
  · refine (check_fresh b w h.cell0 h.shape h.frozen0).mono ?_
    rintro e w' ⟨rfl, rfl⟩
    exact ⟨rfl, h.used _, (Below.refl B w).setCell (p := ⟨b, 0, none⟩) h.1 _, (Lib.OthersKept.refl _ _ w).setCell ⟨b, 0, none⟩ rfl _⟩
  · refine (check_used b w h.cell0).mono ?_
    rintro e w' ⟨rfl, rfl⟩
    exact ⟨rfl, h, Below.refl B _, Lib.OthersKept.refl _ _ _⟩

set_option maxHeartbeats 2000000 in
set_option maxRecDepth 100000 in
theorem write (B b : Nat) (bs : List Value) (s : ByteArray) (w : World) (h : Lib.IsBuilderF 72 5 B b bs w) (hlen : bs.length + s.size ≤ 140737488355328) (hBw : B ≤ w.heap.size) :
    Calls Try.prog 30 #[.pointer (some ⟨b, 0, none⟩), .string s] w fun e w' => e = .returned (.tuple #[.int .i64 s.size, .nilIface]) ∧ (Lib.BuilderAtF 72 5 B b (.pointer (some ⟨b, 0, none⟩)) (bs ++ Lib.strCells s) w' ∧ Below B w w' ∧ Lib.OthersKept 5 (some b) w w') := by
  obtain ⟨i0, hi0, hz0, hz1, hz2⟩ := info_parts extra.infoByte
  have hi : Try.prog.info? 5 = some i0 := hi0
  have e47 : ∀ args w, (callFunc 47 args).run Try.prog w = .ok (.enter 47 args) w := enters_of Try.func47 (by kernel_rfl) rfl
  go_enter Try.func30, Try.ntmps30
  go_wp2_with (go_at_fn 47; refine (check B b bs _ h).mono ?_)
  rintro e w1 ⟨rfl, h1, hb1, hk1⟩
  obtain ⟨hB, v, hbk, hown, hne⟩ := h1
  have c0 : w1.cell? ⟨b, 0, none⟩ = some (.pointer (some ⟨b, 0, none⟩)) := by rw [Lib.cell_of_heap hbk]; rfl
  have c1 : w1.cell? ⟨b, 1, none⟩ = some v := by rw [Lib.cell_of_heap hbk]; rfl
  go_wp2_with (at_builtin; refine Lib.wpList_append_own_stringF _ rfl _ _ 26 9 rfl B 5 i0 Try.underlying26 Try.underlying9 hi hz0 hz1 hz2 _ _ _ rfl hown s rfl ?c3 ?c4 ?c5 ?_)
  case c3 => unfold maxLen; omega
  case c4 => omega
  case c5 => have := hb1.size; omega
  intro v' w2 hown' hgrow _
  have hlt : b < w1.heap.size := blk_lt hbk
  have hb2 : w2.heap[b]? = some (.cells #[.pointer (some ⟨b, 0, none⟩), v] 72 (0, 0)) := by
    rw [hgrow.block b hlt (fun e => hne e.symm)]
    exact hbk
  have d0 : w2.cell? ⟨b, 0, none⟩ = some (.pointer (some ⟨b, 0, none⟩)) := by rw [Lib.cell_of_heap hb2]; rfl
  have d1 : w2.cell? ⟨b, 1, none⟩ = some v := by rw [Lib.cell_of_heap hb2]; rfl
  have f1 : w2.frozen? ⟨b, 1, none⟩ = false := Lib.frozen_of_heap hb2 1
  obtain ⟨ao, n', cap, rfl⟩ : ∃ ao n' cap, v' = .slice ao n' cap := by
    rcases hown'.2 with ⟨hv, _⟩ | ⟨g, cap, cur, fz, hv, _⟩
    · exact ⟨_, _, _, hv⟩
    · exact ⟨_, _, _, hv⟩
  go_wp2
  go_ret2
  refine ⟨rfl, ?_, ?_, (hk1.grown hgrow (Lib.ownsRowF_kind hown)).setCell ⟨b, 1, none⟩ rfl _⟩
  · exact Lib.BuilderAtF.put (T := 72) (e := 5) hB hb2 (bs' := bs ++ Lib.strCells s) (by simpa [Lib.strCells_length] using hown') (by decide)
  · exact (hb1.grown hgrow (by have := hb1.size; omega) (fun k hk => (hown.lt k hk).1)).setCell (p := ⟨b, 1, none⟩) hB _

theorem strCells_append (a b : ByteArray) : Lib.strCells (a ++ b) = Lib.strCells a ++ Lib.strCells b := by
  simp [Lib.strCells]

/-- WriteString, as the walks use it -/
theorem writeString (g : Nat) (f0 : ByteArray) (f1 : Bool) (s : ByteArray) (w0 w : World) (hI : IsBld w0 w g f0 f1) (hB : Below w0.heap.size w0 w) (hl : f0.size + s.size ≤ 140737488355328) :
    Calls Try.prog 30 #[.pointer (some ⟨g, 0, none⟩), .string s] w fun e w' => e = .returned (.tuple #[.int .i64 s.size, .nilIface]) ∧ IsBld w0 w' g (f0 ++ s) f1 ∧ Below w0.heap.size w0 w' ∧ KeepT w w' g := by
  refine (write w0.heap.size g (Lib.strCells f0) s w hI.1 (by simpa [Lib.strCells_length] using hl) hI.2).mono ?_
  rintro e w' ⟨rfl, h1, h2, h3⟩
  exact ⟨rfl, ⟨.inr (by rw [strCells_append]; exact h1), Nat.le_trans hI.2 h2.size⟩, hB.trans h2, h3⟩

theorem toString_ (g : Nat) (f0 : ByteArray) (f1 : Bool) (w0 w : World) (hI : IsBld w0 w g f0 f1) (hB : Below w0.heap.size w0 w) :
    Calls Try.prog 33 #[.pointer (some ⟨g, 0, none⟩)] w fun e w' => e = .returned (.string f0) ∧ IsBld w0 w' g f0 f1 ∧ Below w0.heap.size w0 w' ∧ KeepT w w' g := by
  have h := Any.Builder_String_any_k lays33 extra w0.heap.size g f0.data.toList w (by rw [← strCells_bytes]; exact hI.1) hI.2
  refine Calls.mono h ?_
  rintro e w' ⟨rfl, h1, h2, h3⟩
  exact ⟨by simp, ⟨by rw [strCells_bytes]; exact h1, Nat.le_trans hI.2 h2.size⟩, hB.trans h2, h3⟩

theorem len (g : Nat) (f0 : ByteArray) (f1 : Bool) (w0 w : World) (hI : IsBld w0 w g f0 f1) :
    Calls Try.prog 32 #[.pointer (some ⟨g, 0, none⟩)] w fun e w' => e = .returned (.int .i64 f0.size) ∧ w' = w := by
  have h := Any.Builder_Len_f lays32 w0.heap.size g (Lib.strCells f0) w hI.1
  refine Calls.mono h ?_
  rintro e w' ⟨rfl, rfl⟩
  exact ⟨by rw [Lib.strCells_length], rfl⟩

end Go.Proofs.Ytojmpdjbhplgkaa.Built
