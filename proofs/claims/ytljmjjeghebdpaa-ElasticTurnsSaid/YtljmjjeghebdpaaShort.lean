/- Two facts that the walks use over and over, with what they ask of the worlds found by themselves: a block, and all that lies below, are as they were in a world in which only orders were drawn and blocks were laid. -/
import Derived.Test.YtljmjjeghebdpaaWMore
namespace Go.Proofs.Ytljmjjeghebdpaa.Short
open Go Go.RowKit Go.Proofs.YtljmjjeghebdpaaW.PrintWords Go.Proofs.YtljmjjeghebdpaaW.PrintLast
inductive Later (w:World):World→Prop
  |refl:Later w w
  |drewN {W:World} (h:Later w W) (n:Nat):Later w (W.drewN n)
  |drew {W:World} (h:Later w W):Later w W.drew
  |alloc {W:World} (h:Later w W) (o:Obj):Later w (W.alloc o)
theorem bk_ {w W:World}{g:Nat}{o:Obj}(h:Aside0 (w.heap[g]? =some o))(e:Later w W:=by with_reducible repeat(first|exact Later.refl|refine Later.drewN ?_ _|refine Later.drew ?_|refine Later.alloc ?_ _)):W.heap[g]? =some o:=by
  induction e with
  |refl=>exact h.out
  |drewN _ n ih=>exact blk_drewN ih n
  |drew _ ih=>exact blk_drew ih
  |alloc _ p ih=>exact blk_alloc ih p
inductive Kept (b:Nat) (w:World):World→Prop
  |refl:Kept b w w
  |drewN {W:World} (h:Kept b w W) (n:Nat):Kept b w (W.drewN n)
  |drew {W:World} (h:Kept b w W):Kept b w W.drew
  |alloc {W:World} (h:Kept b w W) (o:Obj):Kept b w (W.alloc o)
  |put {W:World} (h:Kept b w W) {g j:Nat} (hg:Aside0 (b≤g)) (u:Value):Kept b w (W.setCell ⟨g,j,none⟩ u)
theorem bl_ {w w1 W:World}(h:Aside0 (Below w.heap.size w w1))(e:Kept w.heap.size w1 W:=by with_reducible repeat(first|refine Go.Proofs.Ytljmjjeghebdpaa.Short.Kept.put ?_ (by assumption) _|exact Go.Proofs.Ytljmjjeghebdpaa.Short.Kept.refl|refine Go.Proofs.Ytljmjjeghebdpaa.Short.Kept.drewN ?_ _|refine Go.Proofs.Ytljmjjeghebdpaa.Short.Kept.drew ?_|refine Go.Proofs.Ytljmjjeghebdpaa.Short.Kept.alloc ?_ _)):Below w.heap.size w W:=by
  induction e with
  |refl=>exact h.out
  |drewN _ n ih=>exact pw_below_drewN ih n
  |drew _ ih=>exact below_drew1 ih
  |alloc _ p ih=>exact below_alloc ih p
  |put _ hp u ih=>exact below_set ih hp.out
end Go.Proofs.Ytljmjjeghebdpaa.Short
