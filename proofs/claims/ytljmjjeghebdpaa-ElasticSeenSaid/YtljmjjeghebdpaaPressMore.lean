/- More steps of the walks in few words. No condition beyond each lemma's own. -/
import Derived.Test.YtljmjjeghebdpaaPress
import Derived.Test.YtljmjjeghebdpaaWKept
namespace Go.Proofs.Ytljmjjeghebdpaa.PressMore
open Go Go.RowKit Go.Proofs.YtljmjjeghebdpaaW.PrintWords Go.Proofs.YtljmjjeghebdpaaW.PrintMore Go.Proofs.YtljmjjeghebdpaaW.PrintLast Go.Proofs.Ytljmjjeghebdpaa.Short Go.Proofs.Ytljmjjeghebdpaa.Press

theorem mk_ {p : Prop} (h : p) : Aside0 p := ⟨h⟩

theorem bb_ {w W w2 : World} {g : Nat} {o : Obj} (h : Aside0 (w.heap[g]? = some o)) (hb : Below W.heap.size W w2) (e : Later w W := by with_reducible repeat (first | exact Later.refl | refine Later.drewN ?_ _ | refine Later.drew ?_ | refine Later.alloc ?_ _)) : Aside0 (w2.heap[g]? = some o) := ⟨blk_below (bk_ h e) hb⟩

theorem ss_ {α : Type} {d : Kd α} {e base : Nat} {w W w2 : World} {ok : Nat → Prop} {v : Value} {xs : List α} (h : Aside0 (Kd.S d e w base ok v xs)) (hb : Below W.heap.size W w2) (l : Later w W := by with_reducible repeat (first | exact Later.refl | refine Later.drewN ?_ _ | refine Later.drew ?_ | refine Later.alloc ?_ _)) : Aside0 (Kd.S d e w2 base ok v xs) := ⟨Kd.S_below (sk_ h l) hb⟩

theorem vs_ {α : Type} {d : Kd α} {e base : Nat} {w W w2 : World} {ok : Nat → Prop} {v : Value} {xs : List α} (h : Aside0 (Kd.V d e w base ok v xs)) (hb : Below W.heap.size W w2) (l : Later w W := by with_reducible repeat (first | exact Later.refl | refine Later.drewN ?_ _ | refine Later.drew ?_ | refine Later.alloc ?_ _)) : Aside0 (Kd.V d e w2 base ok v xs) := ⟨Kd.V_below (vk_ h l) hb⟩

theorem bs_ {w w1 W w2 : World} (h : Aside0 (Below w.heap.size w w1)) (k : Below W.heap.size W w2) (e : Kept w.heap.size w1 W := by with_reducible repeat (first | refine Go.Proofs.Ytljmjjeghebdpaa.Short.Kept.put ?_ (by assumption) _ | exact Go.Proofs.Ytljmjjeghebdpaa.Short.Kept.refl | refine Go.Proofs.Ytljmjjeghebdpaa.Short.Kept.drewN ?_ _ | refine Go.Proofs.Ytljmjjeghebdpaa.Short.Kept.drew ?_ | refine Go.Proofs.Ytljmjjeghebdpaa.Short.Kept.alloc ?_ _)) : Aside0 (Below w.heap.size w w2) := ⟨below_step (bl_ h e) k⟩

theorem bd_ {w : World} {g : Nat} {o : Obj} (h : Aside0 (w.heap[g]? = some o)) : Aside0 (w.drew.heap[g]? = some o) := ⟨blk_drew h.out⟩

theorem nx_ {w W : World} {g b : Nat} {o : Obj} (hg : b = W.heap.size) (h : Aside0 (w.heap[g]? = some o)) (e : Later w W := by with_reducible repeat (first | exact Later.refl | refine Later.drewN ?_ _ | refine Later.drew ?_ | refine Later.alloc ?_ _)) : Aside0 (g ≠ b) := ⟨nl_ hg h e⟩
theorem ny_ {w W : World} {g b : Nat} {o : Obj} (hg : b = W.heap.size) (h : Aside0 (w.heap[g]? = some o)) (e : Later w W := by with_reducible repeat (first | exact Later.refl | refine Later.drewN ?_ _ | refine Later.drew ?_ | refine Later.alloc ?_ _)) : Aside0 (b ≠ g) := ⟨ng_ hg h e⟩
theorem gx_ {w w1 W : World} {b : Nat} (hg : b = W.heap.size) (h : Aside0 (Below w.heap.size w w1)) (e : Kept w.heap.size w1 W := by with_reducible repeat (first | refine Go.Proofs.Ytljmjjeghebdpaa.Short.Kept.put ?_ (by assumption) _ | exact Go.Proofs.Ytljmjjeghebdpaa.Short.Kept.refl | refine Go.Proofs.Ytljmjjeghebdpaa.Short.Kept.drewN ?_ _ | refine Go.Proofs.Ytljmjjeghebdpaa.Short.Kept.drew ?_ | refine Go.Proofs.Ytljmjjeghebdpaa.Short.Kept.alloc ?_ _)) : Aside0 (w.heap.size ≤ b) := ⟨gl_ hg h e⟩

theorem vl_ {α : Type} {d : Kd α} {e base : Nat} {w W : World} {ok : Nat → Prop} {v : Value} {xs : List α} (h : Kd.V d e w base ok v xs) (l : Later w W := by with_reducible repeat (first | exact Later.refl | refine Later.drewN ?_ _ | refine Later.drew ?_ | refine Later.alloc ?_ _)) : Kd.V d e W base ok v xs := vk_ ⟨h⟩ l
theorem sl_ {α : Type} {d : Kd α} {e base : Nat} {w W : World} {ok : Nat → Prop} {v : Value} {xs : List α} (h : Kd.S d e w base ok v xs) (l : Later w W := by with_reducible repeat (first | exact Later.refl | refine Later.drewN ?_ _ | refine Later.drew ?_ | refine Later.alloc ?_ _)) : Kd.S d e W base ok v xs := sk_ ⟨h⟩ l

theorem bc_ {w : World} {g : Nat} {t : TypeId} {cs : Array Value} {v : Option Value} (h : Aside0 (w.heap[g]? = some (.cells cs t (0, 0)))) (i : Nat) (e : cs[i]? = v := by rfl) : w.cell? ⟨g, i, none⟩ = v := (blk_cell h.out i).trans e
section
variable {P : Program} {ops : Array Oper} {Q : Exit → Act → World → Prop} {md : Region.Mode} {S : World → Prop} {ds : List Nat} {T : Bool × List (List Nat × List Nat)}
/-- pw_ with its sides found by themselves -/
theorem pq_ (i N n x : Nat) {oi : Oper} {v : Value} {fuel : Nat} {l : Array Bool} {a : Act} {w : World} (hT : Aside0 (rtab md ops = T)) {a' : Act} (h : wpAnyLast P md ops Q S ds fuel (mB n x) a' w) (hi : ops[i]? = some oi := by rfl) (hN : oi.dst = some N := by rfl)
    (hw : Region.wanted oi (yielded ops a.tmps) = true := by kernel_rfl) (hQ : ∀ c a w, Q (.panic c) (a.put oi.dst v) w → Q (.panic c) a w := by exact fun _ _ _ h => h) (hy : ∀ w, (execOp a.eval oi).run P w = .ok (.value v) w := by intro w'; go_simp; with_reducible rfl)
    (ha : a.put (some N) v = a' := by simp only [Act.put, sa_, sb_, sc_, i64_w, i32_w]; rfl) (hc : anyT T l.toList (mB n x).toList i = true := by kernel_rfl) : wpAnyLast P md ops Q S ds (fuel + 1) l a w :=
  pw_ i N (mB n x) hi hN hT hw hQ hy ha h hc
/-- take_ the same way -/
theorem tq_ (i N n x : Nat) {B : List Nat} {oi : Oper} {v : Value} {fuel : Nat} {l : Array Bool} {a : Act} {w : World} (hT : Aside0 (rtab md ops = T)) (hW : Aside0 (waitsOk T.2 B = true)) (hS : S w) {a' : Act} (h : wpAnyLast P md ops Q S ds fuel (mB n x) a' w) (hi : ops[i]? = some oi := by rfl) (hN : oi.dst = some N := by rfl)
    (hw : Region.wanted oi (yielded ops a.tmps) = true := by rfl) (hc : takeW T B ds l.toList (mB n x).toList i = true := by kernel_rfl) (hQ : ∀ c a w, Q (.panic c) (a.put oi.dst v) w → Q (.panic c) a w := by exact fun _ _ _ h => h)
    (hy : ∀ w, S w → (execOp a.eval oi).run P w = .ok (.value v) w := by intro w' hs_; (repeat (have h1_ := hs_.1; replace hs_ := hs_.2)); go_simp; with_reducible rfl)
    (ha : a.put (some N) v = a' := by simp only [Act.put, sa_, sb_, sc_, i64_w, i32_w]; rfl) : wpAnyLast P md ops Q S ds (fuel + 1) l a w :=
  take_ (mB n x) hi hN (take_ofW hT.out hW.out hc) hQ (Or.inl ⟨hw, hy⟩) hS ha h
end

theorem cz2_ {w : World} {g : Nat} {t : TypeId} {v0 v1 : Value} (h : Aside0 (w.heap[g]? = some (.cells #[v0, v1] t (0, 0)))) : w.cell? ⟨g, 0, none⟩ = some v0 ∧ w.cell? ⟨g, 1, none⟩ = some v1 := ⟨(blk_cell h.out 0).trans rfl, (blk_cell h.out 1).trans rfl⟩
theorem fz2_ {w : World} {g : Nat} {cs : Array Value} {t : TypeId} (h : Aside0 (w.heap[g]? = some (.cells cs t (0, 0)))) : w.frozen? ⟨g, 0, none⟩ = false ∧ w.frozen? ⟨g, 1, none⟩ = false := ⟨blk_frozen h.out 0, blk_frozen h.out 1⟩
theorem cz3_ {w : World} {g : Nat} {t : TypeId} {v0 v1 v2 : Value} (h : Aside0 (w.heap[g]? = some (.cells #[v0, v1, v2] t (0, 0)))) : w.cell? ⟨g, 0, none⟩ = some v0 ∧ w.cell? ⟨g, 1, none⟩ = some v1 ∧ w.cell? ⟨g, 2, none⟩ = some v2 := ⟨(blk_cell h.out 0).trans rfl, (blk_cell h.out 1).trans rfl, (blk_cell h.out 2).trans rfl⟩
theorem fz3_ {w : World} {g : Nat} {cs : Array Value} {t : TypeId} (h : Aside0 (w.heap[g]? = some (.cells cs t (0, 0)))) : w.frozen? ⟨g, 0, none⟩ = false ∧ w.frozen? ⟨g, 1, none⟩ = false ∧ w.frozen? ⟨g, 2, none⟩ = false := ⟨blk_frozen h.out 0, blk_frozen h.out 1, blk_frozen h.out 2⟩
theorem cz4_ {w : World} {g : Nat} {t : TypeId} {v0 v1 v2 v3 : Value} (h : Aside0 (w.heap[g]? = some (.cells #[v0, v1, v2, v3] t (0, 0)))) : w.cell? ⟨g, 0, none⟩ = some v0 ∧ w.cell? ⟨g, 1, none⟩ = some v1 ∧ w.cell? ⟨g, 2, none⟩ = some v2 ∧ w.cell? ⟨g, 3, none⟩ = some v3 := ⟨(blk_cell h.out 0).trans rfl, (blk_cell h.out 1).trans rfl, (blk_cell h.out 2).trans rfl, (blk_cell h.out 3).trans rfl⟩
theorem fz4_ {w : World} {g : Nat} {cs : Array Value} {t : TypeId} (h : Aside0 (w.heap[g]? = some (.cells cs t (0, 0)))) : w.frozen? ⟨g, 0, none⟩ = false ∧ w.frozen? ⟨g, 1, none⟩ = false ∧ w.frozen? ⟨g, 2, none⟩ = false ∧ w.frozen? ⟨g, 3, none⟩ = false := ⟨blk_frozen h.out 0, blk_frozen h.out 1, blk_frozen h.out 2, blk_frozen h.out 3⟩
theorem cz5_ {w : World} {g : Nat} {t : TypeId} {v0 v1 v2 v3 v4 : Value} (h : Aside0 (w.heap[g]? = some (.cells #[v0, v1, v2, v3, v4] t (0, 0)))) : w.cell? ⟨g, 0, none⟩ = some v0 ∧ w.cell? ⟨g, 1, none⟩ = some v1 ∧ w.cell? ⟨g, 2, none⟩ = some v2 ∧ w.cell? ⟨g, 3, none⟩ = some v3 ∧ w.cell? ⟨g, 4, none⟩ = some v4 := ⟨(blk_cell h.out 0).trans rfl, (blk_cell h.out 1).trans rfl, (blk_cell h.out 2).trans rfl, (blk_cell h.out 3).trans rfl, (blk_cell h.out 4).trans rfl⟩
theorem fz5_ {w : World} {g : Nat} {cs : Array Value} {t : TypeId} (h : Aside0 (w.heap[g]? = some (.cells cs t (0, 0)))) : w.frozen? ⟨g, 0, none⟩ = false ∧ w.frozen? ⟨g, 1, none⟩ = false ∧ w.frozen? ⟨g, 2, none⟩ = false ∧ w.frozen? ⟨g, 3, none⟩ = false ∧ w.frozen? ⟨g, 4, none⟩ = false := ⟨blk_frozen h.out 0, blk_frozen h.out 1, blk_frozen h.out 2, blk_frozen h.out 3, blk_frozen h.out 4⟩
theorem cz6_ {w : World} {g : Nat} {t : TypeId} {v0 v1 v2 v3 v4 v5 : Value} (h : Aside0 (w.heap[g]? = some (.cells #[v0, v1, v2, v3, v4, v5] t (0, 0)))) : w.cell? ⟨g, 0, none⟩ = some v0 ∧ w.cell? ⟨g, 1, none⟩ = some v1 ∧ w.cell? ⟨g, 2, none⟩ = some v2 ∧ w.cell? ⟨g, 3, none⟩ = some v3 ∧ w.cell? ⟨g, 4, none⟩ = some v4 ∧ w.cell? ⟨g, 5, none⟩ = some v5 := ⟨(blk_cell h.out 0).trans rfl, (blk_cell h.out 1).trans rfl, (blk_cell h.out 2).trans rfl, (blk_cell h.out 3).trans rfl, (blk_cell h.out 4).trans rfl, (blk_cell h.out 5).trans rfl⟩
theorem fz6_ {w : World} {g : Nat} {cs : Array Value} {t : TypeId} (h : Aside0 (w.heap[g]? = some (.cells cs t (0, 0)))) : w.frozen? ⟨g, 0, none⟩ = false ∧ w.frozen? ⟨g, 1, none⟩ = false ∧ w.frozen? ⟨g, 2, none⟩ = false ∧ w.frozen? ⟨g, 3, none⟩ = false ∧ w.frozen? ⟨g, 4, none⟩ = false ∧ w.frozen? ⟨g, 5, none⟩ = false := ⟨blk_frozen h.out 0, blk_frozen h.out 1, blk_frozen h.out 2, blk_frozen h.out 3, blk_frozen h.out 4, blk_frozen h.out 5⟩
theorem cz7_ {w : World} {g : Nat} {t : TypeId} {v0 v1 v2 v3 v4 v5 v6 : Value} (h : Aside0 (w.heap[g]? = some (.cells #[v0, v1, v2, v3, v4, v5, v6] t (0, 0)))) : w.cell? ⟨g, 0, none⟩ = some v0 ∧ w.cell? ⟨g, 1, none⟩ = some v1 ∧ w.cell? ⟨g, 2, none⟩ = some v2 ∧ w.cell? ⟨g, 3, none⟩ = some v3 ∧ w.cell? ⟨g, 4, none⟩ = some v4 ∧ w.cell? ⟨g, 5, none⟩ = some v5 ∧ w.cell? ⟨g, 6, none⟩ = some v6 := ⟨(blk_cell h.out 0).trans rfl, (blk_cell h.out 1).trans rfl, (blk_cell h.out 2).trans rfl, (blk_cell h.out 3).trans rfl, (blk_cell h.out 4).trans rfl, (blk_cell h.out 5).trans rfl, (blk_cell h.out 6).trans rfl⟩
theorem fz7_ {w : World} {g : Nat} {cs : Array Value} {t : TypeId} (h : Aside0 (w.heap[g]? = some (.cells cs t (0, 0)))) : w.frozen? ⟨g, 0, none⟩ = false ∧ w.frozen? ⟨g, 1, none⟩ = false ∧ w.frozen? ⟨g, 2, none⟩ = false ∧ w.frozen? ⟨g, 3, none⟩ = false ∧ w.frozen? ⟨g, 4, none⟩ = false ∧ w.frozen? ⟨g, 5, none⟩ = false ∧ w.frozen? ⟨g, 6, none⟩ = false := ⟨blk_frozen h.out 0, blk_frozen h.out 1, blk_frozen h.out 2, blk_frozen h.out 3, blk_frozen h.out 4, blk_frozen h.out 5, blk_frozen h.out 6⟩
theorem cz8_ {w : World} {g : Nat} {t : TypeId} {v0 v1 v2 v3 v4 v5 v6 v7 : Value} (h : Aside0 (w.heap[g]? = some (.cells #[v0, v1, v2, v3, v4, v5, v6, v7] t (0, 0)))) : w.cell? ⟨g, 0, none⟩ = some v0 ∧ w.cell? ⟨g, 1, none⟩ = some v1 ∧ w.cell? ⟨g, 2, none⟩ = some v2 ∧ w.cell? ⟨g, 3, none⟩ = some v3 ∧ w.cell? ⟨g, 4, none⟩ = some v4 ∧ w.cell? ⟨g, 5, none⟩ = some v5 ∧ w.cell? ⟨g, 6, none⟩ = some v6 ∧ w.cell? ⟨g, 7, none⟩ = some v7 := ⟨(blk_cell h.out 0).trans rfl, (blk_cell h.out 1).trans rfl, (blk_cell h.out 2).trans rfl, (blk_cell h.out 3).trans rfl, (blk_cell h.out 4).trans rfl, (blk_cell h.out 5).trans rfl, (blk_cell h.out 6).trans rfl, (blk_cell h.out 7).trans rfl⟩
theorem fz8_ {w : World} {g : Nat} {cs : Array Value} {t : TypeId} (h : Aside0 (w.heap[g]? = some (.cells cs t (0, 0)))) : w.frozen? ⟨g, 0, none⟩ = false ∧ w.frozen? ⟨g, 1, none⟩ = false ∧ w.frozen? ⟨g, 2, none⟩ = false ∧ w.frozen? ⟨g, 3, none⟩ = false ∧ w.frozen? ⟨g, 4, none⟩ = false ∧ w.frozen? ⟨g, 5, none⟩ = false ∧ w.frozen? ⟨g, 6, none⟩ = false ∧ w.frozen? ⟨g, 7, none⟩ = false := ⟨blk_frozen h.out 0, blk_frozen h.out 1, blk_frozen h.out 2, blk_frozen h.out 3, blk_frozen h.out 4, blk_frozen h.out 5, blk_frozen h.out 6, blk_frozen h.out 7⟩

/-- a block through later worlds and stores elsewhere -/
theorem fb_ {w : World} {g : Nat} {o : Obj} (h : w.heap[g]? = some o := by (with_reducible repeat (first | refine blk_drewN ?_ _ | refine blk_drew ?_ | refine blk_alloc ?_ _ | refine blk_far ?_ (Aside0.out (by assumption)) _)); exact Aside0.out (by first | (with_reducible assumption) | assumption)) : w.heap[g]? = some o := h
/-- a cell that is there lies elsewhere than a block that is new -/
theorem nb_ {w : World} {p : Addr} {v : Value} {g : Nat} (h : w.cell? p = some v) (hg : Aside0 (w.heap.size ≤ g)) {q : Nat} (e : p.block = q := by first | rfl | simp only [add_block]) : q ≠ g := e ▸ Nat.ne_of_lt (Nat.lt_of_lt_of_le (World.block_lt_of_cell? _ _ h) hg.out)
theorem bt_ {w W : World} (hb : Aside0 (Below w.heap.size w W)) {p : Addr} {v : Value} (h : w.cell? p = some v) : W.cell? p = some v := (hb.out.cell (World.block_lt_of_cell? w _ h)).trans h
/-- a block through later worlds and stores into it -/
inductive Puts (w : World) (g : Nat) (cs : Array Value) : World → Array Value → Prop
  | refl : Puts w g cs w cs
  | drewN {W : World} {c : Array Value} (h : Puts w g cs W c) (n : Nat) : Puts w g cs (W.drewN n) c
  | drew {W : World} {c : Array Value} (h : Puts w g cs W c) : Puts w g cs W.drew c
  | alloc {W : World} {c : Array Value} (h : Puts w g cs W c) (o : Obj) : Puts w g cs (W.alloc o) c
  | put {W : World} {c : Array Value} (h : Puts w g cs W c) (i : Nat) (u : Value) : Puts w g cs (W.setCell ⟨g, i, none⟩ u) (c.setIfInBounds i u)
theorem pt_ {w W : World} {g : Nat} {t : TypeId} {cs cs1 cs' : Array Value} (h : Aside0 (w.heap[g]? = some (.cells cs t (0, 0)))) (e : Puts w g cs W cs1 := by with_reducible repeat (first | exact Puts.refl | apply Puts.put | apply Puts.drewN | apply Puts.drew | apply Puts.alloc)) (hc : cs1 = cs' := by rfl) : W.heap[g]? = some (.cells cs' t (0, 0)) := by
  subst hc
  induction e with
  | refl => exact h.out
  | drewN _ n ih => exact blk_drewN ih n
  | drew _ ih => exact blk_drew ih
  | alloc _ o ih => exact blk_alloc ih o
  | put _ i u ih => exact blk_put ih i u rfl
/-- a call in a plain region -/
theorem gs_ {P : Program} {ops : Array Oper} {Q : Exit → Act → World → Prop} {rest : List Oper} {oi : Oper} {a : Act} {w : World} (N : Option Tmp) {f : FuncId} {fn : Func} {as : Array Operand} {ts : Array TypeId} (hf : P.funcs[f]? = some fn) (args : Array Value)
    (h : Calls P f args w fun e w' => ∃ v, e = .returned v ∧ wpList P ops Q rest (a.put N v) w') (hd : oi.dst = N := by rfl) (hg : oi.guard = none := by rfl) (hname : (fn.name == "runtime.NumGoroutine") = false := by kernel_rfl) (hb : fn.body.isSome = true := by rfl)
    (hop : oi.op = .call { callee := .value (.func f), args := as, argTypes := ts } := by rfl) (hargs : as.map a.eval = args := by (try simp only [List.map_toArray, List.map_cons, List.map_nil]); first | done | rfl | (simp only [List.length_drop, List.length_take]; rfl)) : wpList P ops Q (oi :: rest) a w :=
  goesL_ N hd hg hf hname hb args hop hargs h
theorem rk_ {α : Type} {d : Kd α} {e base : Nat} {w W : World} {ok : Nat → Prop} {v : Value} {xs : List α} (h : Aside0 (d.R e w base ok v xs)) (l : Later w W := by with_reducible repeat (first | exact Later.refl | refine Later.drewN ?_ _ | refine Later.drew ?_ | refine Later.alloc ?_ _)) : d.R e W base ok v xs := by
  induction l with
  | refl => exact h.out
  | drewN _ n ih => exact Kd.R_drewN ih n
  | drew _ ih => exact Kd.R_drew ih
  | alloc _ o ih => exact Kd.R_alloc ih o
theorem nk_ {α : Type} {d : Kd α} {e base : Nat} {w W : World} {ok : Nat → Prop} {v : Value} {xs : List α} (h : Aside0 (Kd.N d e w base ok v xs)) (l : Later w W := by with_reducible repeat (first | exact Later.refl | refine Later.drewN ?_ _ | refine Later.drew ?_ | refine Later.alloc ?_ _)) : Kd.N d e W base ok v xs := by
  induction l with
  | refl => exact h.out
  | drewN _ n ih => exact Kd.N_drewN ih n
  | drew _ ih => exact Kd.N_drew ih
  | alloc _ o ih => exact Kd.N_alloc ih o
/-- what is decided -/
theorem od_ {p : Prop} [Decidable p] (h : decide p = true := by first | (with_reducible assumption) | assumption) : p := of_decide_eq_true h
theorem ck_ {α : Type} {d : Kd α} {w W : World} {A : Option Addr} {n : Nat} {xs : List α} (h : d.C w A n xs) (l : Later w W := by with_reducible repeat (first | exact Later.refl | refine Later.drewN ?_ _ | refine Later.drew ?_ | refine Later.alloc ?_ _)) : d.C W A n xs := by
  induction l with
  | refl => exact h
  | drewN _ n ih => exact Kd.C_drewN ih n
  | drew _ ih => exact Kd.C_drew ih
  | alloc _ o ih => exact Kd.C_alloc ih o
theorem kp_ {w w1 W : World} {S : Nat → Prop} (h : Aside0 (Go.Proofs.YtljmjjeghebdpaaW.PrintWords.Kept w w1 S)) (l : Later w1 W := by repeat (first | (with_reducible first | exact Later.refl | refine Later.drewN ?_ _ | refine Later.drew ?_ | refine Later.alloc ?_ _) | exact Later.refl)) : Go.Proofs.YtljmjjeghebdpaaW.PrintWords.Kept w W S := by
  induction l with
  | refl => exact h.out
  | drewN _ n ih => exact Go.Proofs.YtljmjjeghebdpaaW.PrintWords.Kept.drewN ih n
  | drew _ ih => exact Go.Proofs.YtljmjjeghebdpaaW.PrintWords.Kept.drew ih
  | alloc _ o ih => exact Go.Proofs.YtljmjjeghebdpaaW.PrintWords.Kept.alloc ih o
end Go.Proofs.Ytljmjjeghebdpaa.PressMore
