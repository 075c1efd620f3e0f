/- The library's table of trailing zeros lies in a world; it lies there behind what a call draws, makes and keeps. The condition: it lay there ahead. -/
import Derived.Test.YteakbghjhckoeaaDoorShort
import Derived.Shelf.Spec.TrailingZeros
import Derived.Lib.LaidTab
namespace Go.Proofs.YteakbghjhckoeaaDoor.Tabs
open Go Go.RowKit Go.Proofs.YteakbghjhckoeaaDoorW.PrintWords Go.Proofs.YteakbghjhckoeaaDoorW.PrintLast Go.Proofs.YteakbghjhckoeaaDoor.Short

def Tab (w : World) : Prop := TabAt 0 Lib.deBruijn64tab w

theorem tab_below {w W : World} (hb : Below w.heap.size w W) (h : Tab w) : Tab W := fun j hj => (hb.cell (World.block_lt_of_cell? w _ (h j hj))).trans (h j hj)

theorem later_below {w W : World} (e : Later w W) : Below w.heap.size w W := by
  induction e with
  | refl => exact Below.refl _ _
  | drewN _ n ih => exact pw_below_drewN ih n
  | drew _ ih => exact below_drew1 ih
  | alloc _ p ih => exact below_alloc ih p

theorem tl_ {w W : World} (HT : Aside0 (Tab w)) (e : Later w W := by with_reducible repeat (first | exact Later.refl | refine Later.drewN ?_ _ | refine Later.drew ?_ | refine Later.alloc ?_ _)) : Tab W := tab_below (later_below e) HT.out

theorem tb_ {w w1 W : World} (HT : Aside0 (Tab w)) (h : Aside0 (Below w.heap.size w w1)) (e : Kept w.heap.size w1 W := by with_reducible repeat (first | exact Kept.refl | refine Kept.drewN ?_ _ | refine Kept.drew ?_ | refine Kept.alloc ?_ _ | refine Kept.put ?_ (by assumption) _)) : Tab W := tab_below (bl_ h e) HT.out
end Go.Proofs.YteakbghjhckoeaaDoor.Tabs
