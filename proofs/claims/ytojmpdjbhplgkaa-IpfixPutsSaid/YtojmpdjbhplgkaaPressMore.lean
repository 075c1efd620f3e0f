/- More steps of the walks in few words. No condition beyond each lemma's own. -/
import Derived.Test.YtojmpdjbhplgkaaPress
namespace Go.Proofs.Ytojmpdjbhplgkaa.PressMore
open Go Go.RowKit Go.Proofs.YtojmpdjbhplgkaaW.PrintWords Go.Proofs.YtojmpdjbhplgkaaW.PrintMore Go.Proofs.YtojmpdjbhplgkaaW.PrintLast Go.Proofs.Ytojmpdjbhplgkaa.Short Go.Proofs.Ytojmpdjbhplgkaa.Press

theorem mk_ {p : Prop} (h : p) : Aside0 p := ⟨h⟩

theorem bb_ {w W w2 : World} {g : Nat} {o : Obj} (h : Aside0 (w.heap[g]? = some o)) (hb : Below W.heap.size W w2) (e : Later w W := by with_reducible repeat (first | exact Later.refl | refine Later.drewN ?_ _ | refine Later.drew ?_ | refine Later.alloc ?_ _)) : Aside0 (w2.heap[g]? = some o) := ⟨blk_below (bk_ h e) hb⟩

theorem ss_ {α : Type} {d : Kd α} {e base : Nat} {w W w2 : World} {ok : Nat → Prop} {v : Value} {xs : List α} (h : Aside0 (Kd.S d e w base ok v xs)) (hb : Below W.heap.size W w2) (l : Later w W := by with_reducible repeat (first | exact Later.refl | refine Later.drewN ?_ _ | refine Later.drew ?_ | refine Later.alloc ?_ _)) : Aside0 (Kd.S d e w2 base ok v xs) := ⟨Kd.S_below (sk_ h l) hb⟩

theorem vs_ {α : Type} {d : Kd α} {e base : Nat} {w W w2 : World} {ok : Nat → Prop} {v : Value} {xs : List α} (h : Aside0 (Kd.V d e w base ok v xs)) (hb : Below W.heap.size W w2) (l : Later w W := by with_reducible repeat (first | exact Later.refl | refine Later.drewN ?_ _ | refine Later.drew ?_ | refine Later.alloc ?_ _)) : Aside0 (Kd.V d e w2 base ok v xs) := ⟨Kd.V_below (vk_ h l) hb⟩

theorem bs_ {w w1 W w2 : World} (h : Aside0 (Below w.heap.size w w1)) (k : Below W.heap.size W w2) (e : Kept w.heap.size w1 W := by with_reducible repeat (first | refine Kept.put ?_ (by assumption) _ | exact Kept.refl | refine Kept.drewN ?_ _ | refine Kept.drew ?_ | refine Kept.alloc ?_ _)) : Aside0 (Below w.heap.size w w2) := ⟨below_step (bl_ h e) k⟩

theorem bd_ {w : World} {g : Nat} {o : Obj} (h : Aside0 (w.heap[g]? = some o)) : Aside0 (w.drew.heap[g]? = some o) := ⟨blk_drew h.out⟩

theorem nx_ {w W : World} {g b : Nat} {o : Obj} (hg : b = W.heap.size) (h : Aside0 (w.heap[g]? = some o)) (e : Later w W := by with_reducible repeat (first | exact Later.refl | refine Later.drewN ?_ _ | refine Later.drew ?_ | refine Later.alloc ?_ _)) : Aside0 (g ≠ b) := ⟨nl_ hg h e⟩
theorem ny_ {w W : World} {g b : Nat} {o : Obj} (hg : b = W.heap.size) (h : Aside0 (w.heap[g]? = some o)) (e : Later w W := by with_reducible repeat (first | exact Later.refl | refine Later.drewN ?_ _ | refine Later.drew ?_ | refine Later.alloc ?_ _)) : Aside0 (b ≠ g) := ⟨ng_ hg h e⟩
theorem gx_ {w w1 W : World} {b : Nat} (hg : b = W.heap.size) (h : Aside0 (Below w.heap.size w w1)) (e : Kept w.heap.size w1 W := by with_reducible repeat (first | refine Kept.put ?_ (by assumption) _ | exact Kept.refl | refine Kept.drewN ?_ _ | refine Kept.drew ?_ | refine Kept.alloc ?_ _)) : Aside0 (w.heap.size ≤ b) := ⟨gl_ hg h e⟩

theorem vl_ {α : Type} {d : Kd α} {e base : Nat} {w W : World} {ok : Nat → Prop} {v : Value} {xs : List α} (h : Kd.V d e w base ok v xs) (l : Later w W := by with_reducible repeat (first | exact Later.refl | refine Later.drewN ?_ _ | refine Later.drew ?_ | refine Later.alloc ?_ _)) : Kd.V d e W base ok v xs := vk_ ⟨h⟩ l
theorem sl_ {α : Type} {d : Kd α} {e base : Nat} {w W : World} {ok : Nat → Prop} {v : Value} {xs : List α} (h : Kd.S d e w base ok v xs) (l : Later w W := by with_reducible repeat (first | exact Later.refl | refine Later.drewN ?_ _ | refine Later.drew ?_ | refine Later.alloc ?_ _)) : Kd.S d e W base ok v xs := sk_ ⟨h⟩ l

theorem bc_ {w : World} {g : Nat} {t : TypeId} {cs : Array Value} {v : Option Value} (h : Aside0 (w.heap[g]? = some (.cells cs t (0, 0)))) (i : Nat) (e : cs[i]? = v := by rfl) : w.cell? ⟨g, i, none⟩ = v := (blk_cell h.out i).trans e
/-- a block through later worlds and stores elsewhere -/
theorem fb_ {w : World} {g : Nat} {o : Obj} (h : w.heap[g]? = some o := by (with_reducible repeat (first | refine blk_drewN ?_ _ | refine blk_drew ?_ | refine blk_alloc ?_ _ | refine blk_far ?_ (Aside0.out (by assumption)) _)); exact Aside0.out (by first | (with_reducible assumption) | assumption)) : w.heap[g]? = some o := h
/-- a cell that is there lies elsewhere than a block that is new -/
theorem nb_ {w : World} {p : Addr} {v : Value} {g : Nat} (h : w.cell? p = some v) (hg : Aside0 (w.heap.size ≤ g)) {q : Nat} (e : p.block = q := by first | rfl | simp only [add_block]) : q ≠ g := e ▸ Nat.ne_of_lt (Nat.lt_of_lt_of_le (World.block_lt_of_cell? _ _ h) hg.out)
theorem bt_ {w W : World} (hb : Aside0 (Below w.heap.size w W)) {p : Addr} {v : Value} (h : w.cell? p = some v) : W.cell? p = some v := (hb.out.cell (World.block_lt_of_cell? w _ h)).trans h
end Go.Proofs.Ytojmpdjbhplgkaa.PressMore
