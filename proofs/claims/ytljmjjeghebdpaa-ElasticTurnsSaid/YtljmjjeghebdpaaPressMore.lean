/- More steps of the walks in few words. No condition beyond each lemma's own. -/
import Derived.Test.YtljmjjeghebdpaaPress
import Derived.Test.YtljmjjeghebdpaaWKept
namespace Go.Proofs.Ytljmjjeghebdpaa.PressMore
open Go Go.RowKit Go.Proofs.YtljmjjeghebdpaaW.PrintWords Go.Proofs.YtljmjjeghebdpaaW.PrintMore Go.Proofs.YtljmjjeghebdpaaW.PrintLast Go.Proofs.Ytljmjjeghebdpaa.Short Go.Proofs.Ytljmjjeghebdpaa.Press
theorem mk_ {p:Prop}(h:p):Aside0 p:=⟨h⟩
theorem bb_ {w W w2:World}{g:Nat}{o:Obj}(h:Aside0 (w.heap[g]? =some o))(hb:Below W.heap.size W w2)(e:Later w W:=by with_reducible repeat(first|exact Later.refl|refine Later.drewN ?_ _|refine Later.drew ?_|refine Later.alloc ?_ _)):Aside0 (w2.heap[g]? =some o):=⟨blk_below (bk_ h e) hb⟩
theorem ss_ {α:Type}{d:Kd α}{e base:Nat}{w W w2:World}{ok:Nat→Prop}{v:Value}{xs:List α}(h:Aside0 (Kd.S d e w base ok v xs))(hb:Below W.heap.size W w2)(l:Later w W:=by with_reducible repeat(first|exact Later.refl|refine Later.drewN ?_ _|refine Later.drew ?_|refine Later.alloc ?_ _)):Aside0 (Kd.S d e w2 base ok v xs):=⟨Kd.S_below (sk_ h l) hb⟩
theorem vs_ {α:Type}{d:Kd α}{e base:Nat}{w W w2:World}{ok:Nat→Prop}{v:Value}{xs:List α}(h:Aside0 (Kd.V d e w base ok v xs))(hb:Below W.heap.size W w2)(l:Later w W:=by with_reducible repeat(first|exact Later.refl|refine Later.drewN ?_ _|refine Later.drew ?_|refine Later.alloc ?_ _)):Aside0 (Kd.V d e w2 base ok v xs):=⟨Kd.V_below (vk_ h l) hb⟩
theorem bs_ {w w1 W w2:World}(h:Aside0 (Below w.heap.size w w1))(k:Below W.heap.size W w2)(e:Kept w.heap.size w1 W:=by with_reducible repeat(first|refine Go.Proofs.Ytljmjjeghebdpaa.Short.Kept.put ?_ (by assumption) _|exact Go.Proofs.Ytljmjjeghebdpaa.Short.Kept.refl|refine Go.Proofs.Ytljmjjeghebdpaa.Short.Kept.drewN ?_ _|refine Go.Proofs.Ytljmjjeghebdpaa.Short.Kept.drew ?_|refine Go.Proofs.Ytljmjjeghebdpaa.Short.Kept.alloc ?_ _)):Aside0 (Below w.heap.size w w2):=⟨below_step (bl_ h e) k⟩
theorem bd_ {w:World}{g:Nat}{o:Obj}(h:Aside0 (w.heap[g]? =some o)):Aside0 (w.drew.heap[g]? =some o):=⟨blk_drew h.out⟩
theorem nx_ {w W:World}{g b:Nat}{o:Obj}(hg:b=W.heap.size)(h:Aside0 (w.heap[g]? =some o))(e:Later w W:=by with_reducible repeat(first|exact Later.refl|refine Later.drewN ?_ _|refine Later.drew ?_|refine Later.alloc ?_ _)):Aside0 (g≠b):=⟨nl_ hg h e⟩
theorem ny_ {w W:World}{g b:Nat}{o:Obj}(hg:b=W.heap.size)(h:Aside0 (w.heap[g]? =some o))(e:Later w W:=by with_reducible repeat(first|exact Later.refl|refine Later.drewN ?_ _|refine Later.drew ?_|refine Later.alloc ?_ _)):Aside0 (b≠g):=⟨ng_ hg h e⟩
theorem gx_ {w w1 W:World}{b:Nat}(hg:b=W.heap.size)(h:Aside0 (Below w.heap.size w w1))(e:Kept w.heap.size w1 W:=by with_reducible repeat(first|refine Go.Proofs.Ytljmjjeghebdpaa.Short.Kept.put ?_ (by assumption) _|exact Go.Proofs.Ytljmjjeghebdpaa.Short.Kept.refl|refine Go.Proofs.Ytljmjjeghebdpaa.Short.Kept.drewN ?_ _|refine Go.Proofs.Ytljmjjeghebdpaa.Short.Kept.drew ?_|refine Go.Proofs.Ytljmjjeghebdpaa.Short.Kept.alloc ?_ _)):Aside0 (w.heap.size≤b):=⟨gl_ hg h e⟩
theorem vl_ {α:Type}{d:Kd α}{e base:Nat}{w W:World}{ok:Nat→Prop}{v:Value}{xs:List α}(h:Kd.V d e w base ok v xs)(l:Later w W:=by with_reducible repeat(first|exact Later.refl|refine Later.drewN ?_ _|refine Later.drew ?_|refine Later.alloc ?_ _)):Kd.V d e W base ok v xs:=vk_ ⟨h⟩ l
theorem sl_ {α:Type}{d:Kd α}{e base:Nat}{w W:World}{ok:Nat→Prop}{v:Value}{xs:List α}(h:Kd.S d e w base ok v xs)(l:Later w W:=by with_reducible repeat(first|exact Later.refl|refine Later.drewN ?_ _|refine Later.drew ?_|refine Later.alloc ?_ _)):Kd.S d e W base ok v xs:=sk_ ⟨h⟩ l
theorem bc_ {w:World}{g:Nat}{t:TypeId}{cs:Array Value}{v:Option Value}(h:Aside0 (w.heap[g]? =some (.cells cs t (0,0))))(i:Nat)(e:cs[i]? =v:=by rfl):w.cell? ⟨g,i,none⟩=v:=(blk_cell h.out i).trans e
section
variable {P:Program} {ops:Array Oper} {Q:Exit→Act→World→Prop} {md:Region.Mode} {S:World→Prop} {ds:List Nat} {T:Bool × List (List Nat × List Nat)}
theorem pq_ (i N n x:Nat){oi:Oper}{v:Value}{fuel:Nat}{l:Array Bool}{a:Act}{w:World}(hT:Aside0 (rtab md ops=T)){a':Act}(h:wpAnyLast P md ops Q S ds fuel (mB n x) a' w)(hi:ops[i]? =some oi:=by rfl)(hN:oi.dst=some N:=by rfl)
    (hw:Region.wanted oi (yielded ops a.tmps)=true:=by kernel_rfl) (hQ:∀c a w,Q (.panic c) (a.put oi.dst v) w→Q (.panic c) a w:=by exact fun _ _ _ h=>h) (hy:∀w,(execOp a.eval oi).run P w=.ok (.value v) w:=by intro w';go_simp;with_reducible rfl)
    (ha:a.put (some N) v=a':=by simp only[Act.put,sa_,sb_,sc_,i64_w,i32_w];rfl) (hc:anyT T l.toList (mB n x).toList i=true:=by kernel_rfl):wpAnyLast P md ops Q S ds (fuel+1) l a w:=
  pw_ i N (mB n x) hi hN hT hw hQ hy ha h hc
theorem tq_ (i N n x:Nat){B:List Nat}{oi:Oper}{v:Value}{fuel:Nat}{l:Array Bool}{a:Act}{w:World}(hT:Aside0 (rtab md ops=T))(hW:Aside0 (waitsOk T.2 B=true))(hS:S w){a':Act}(h:wpAnyLast P md ops Q S ds fuel (mB n x) a' w)(hi:ops[i]? =some oi:=by rfl)(hN:oi.dst=some N:=by rfl)
    (hw:Region.wanted oi (yielded ops a.tmps)=true:=by rfl) (hc:takeW T B ds l.toList (mB n x).toList i=true:=by kernel_rfl) (hQ:∀c a w,Q (.panic c) (a.put oi.dst v) w→Q (.panic c) a w:=by exact fun _ _ _ h=>h)
    (hy:∀w,S w→(execOp a.eval oi).run P w=.ok (.value v) w:=by intro w' hs_;(repeat(have h1_:=hs_.1;replace hs_:=hs_.2));go_simp;with_reducible rfl)
    (ha:a.put (some N) v=a':=by simp only[Act.put,sa_,sb_,sc_,i64_w,i32_w];rfl):wpAnyLast P md ops Q S ds (fuel+1) l a w:=
  take_ (mB n x) hi hN (take_ofW hT.out hW.out hc) hQ (Or.inl ⟨hw,hy⟩) hS ha h
end
theorem cz2_ {w:World}{g:Nat}{t:TypeId}{v0 v1:Value}(h:Aside0 (w.heap[g]? =some (.cells #[v0,v1] t (0,0)))):w.cell? ⟨g,0,none⟩=some v0∧w.cell? ⟨g,1,none⟩=some v1:=⟨(blk_cell h.out 0).trans rfl,(blk_cell h.out 1).trans rfl⟩
theorem fz2_ {w:World}{g:Nat}{cs:Array Value}{t:TypeId}(h:Aside0 (w.heap[g]? =some (.cells cs t (0,0)))):w.frozen? ⟨g,0,none⟩=false∧w.frozen? ⟨g,1,none⟩=false:=⟨blk_frozen h.out 0,blk_frozen h.out 1⟩
theorem cz3_ {w:World}{g:Nat}{t:TypeId}{v0 v1 v2:Value}(h:Aside0 (w.heap[g]? =some (.cells #[v0,v1,v2] t (0,0)))):w.cell? ⟨g,0,none⟩=some v0∧w.cell? ⟨g,1,none⟩=some v1∧w.cell? ⟨g,2,none⟩=some v2:=⟨(blk_cell h.out 0).trans rfl,(blk_cell h.out 1).trans rfl,(blk_cell h.out 2).trans rfl⟩
theorem fz3_ {w:World}{g:Nat}{cs:Array Value}{t:TypeId}(h:Aside0 (w.heap[g]? =some (.cells cs t (0,0)))):w.frozen? ⟨g,0,none⟩=false∧w.frozen? ⟨g,1,none⟩=false∧w.frozen? ⟨g,2,none⟩=false:=⟨blk_frozen h.out 0,blk_frozen h.out 1,blk_frozen h.out 2⟩
theorem cz4_ {w:World}{g:Nat}{t:TypeId}{v0 v1 v2 v3:Value}(h:Aside0 (w.heap[g]? =some (.cells #[v0,v1,v2,v3] t (0,0)))):w.cell? ⟨g,0,none⟩=some v0∧w.cell? ⟨g,1,none⟩=some v1∧w.cell? ⟨g,2,none⟩=some v2∧w.cell? ⟨g,3,none⟩=some v3:=⟨(blk_cell h.out 0).trans rfl,(blk_cell h.out 1).trans rfl,(blk_cell h.out 2).trans rfl,(blk_cell h.out 3).trans rfl⟩
theorem fz4_ {w:World}{g:Nat}{cs:Array Value}{t:TypeId}(h:Aside0 (w.heap[g]? =some (.cells cs t (0,0)))):w.frozen? ⟨g,0,none⟩=false∧w.frozen? ⟨g,1,none⟩=false∧w.frozen? ⟨g,2,none⟩=false∧w.frozen? ⟨g,3,none⟩=false:=⟨blk_frozen h.out 0,blk_frozen h.out 1,blk_frozen h.out 2,blk_frozen h.out 3⟩
theorem cz5_ {w:World}{g:Nat}{t:TypeId}{v0 v1 v2 v3 v4:Value}(h:Aside0 (w.heap[g]? =some (.cells #[v0,v1,v2,v3,v4] t (0,0)))):w.cell? ⟨g,0,none⟩=some v0∧w.cell? ⟨g,1,none⟩=some v1∧w.cell? ⟨g,2,none⟩=some v2∧w.cell? ⟨g,3,none⟩=some v3∧w.cell? ⟨g,4,none⟩=some v4:=⟨(blk_cell h.out 0).trans rfl,(blk_cell h.out 1).trans rfl,(blk_cell h.out 2).trans rfl,(blk_cell h.out 3).trans rfl,(blk_cell h.out 4).trans rfl⟩
theorem fz5_ {w:World}{g:Nat}{cs:Array Value}{t:TypeId}(h:Aside0 (w.heap[g]? =some (.cells cs t (0,0)))):w.frozen? ⟨g,0,none⟩=false∧w.frozen? ⟨g,1,none⟩=false∧w.frozen? ⟨g,2,none⟩=false∧w.frozen? ⟨g,3,none⟩=false∧w.frozen? ⟨g,4,none⟩=false:=⟨blk_frozen h.out 0,blk_frozen h.out 1,blk_frozen h.out 2,blk_frozen h.out 3,blk_frozen h.out 4⟩
theorem cz6_ {w:World}{g:Nat}{t:TypeId}{v0 v1 v2 v3 v4 v5:Value}(h:Aside0 (w.heap[g]? =some (.cells #[v0,v1,v2,v3,v4,v5] t (0,0)))):w.cell? ⟨g,0,none⟩=some v0∧w.cell? ⟨g,1,none⟩=some v1∧w.cell? ⟨g,2,none⟩=some v2∧w.cell? ⟨g,3,none⟩=some v3∧w.cell? ⟨g,4,none⟩=some v4∧w.cell? ⟨g,5,none⟩=some v5:=⟨(blk_cell h.out 0).trans rfl,(blk_cell h.out 1).trans rfl,(blk_cell h.out 2).trans rfl,(blk_cell h.out 3).trans rfl,(blk_cell h.out 4).trans rfl,(blk_cell h.out 5).trans rfl⟩
theorem fz6_ {w:World}{g:Nat}{cs:Array Value}{t:TypeId}(h:Aside0 (w.heap[g]? =some (.cells cs t (0,0)))):w.frozen? ⟨g,0,none⟩=false∧w.frozen? ⟨g,1,none⟩=false∧w.frozen? ⟨g,2,none⟩=false∧w.frozen? ⟨g,3,none⟩=false∧w.frozen? ⟨g,4,none⟩=false∧w.frozen? ⟨g,5,none⟩=false:=⟨blk_frozen h.out 0,blk_frozen h.out 1,blk_frozen h.out 2,blk_frozen h.out 3,blk_frozen h.out 4,blk_frozen h.out 5⟩
theorem cz7_ {w:World}{g:Nat}{t:TypeId}{v0 v1 v2 v3 v4 v5 v6:Value}(h:Aside0 (w.heap[g]? =some (.cells #[v0,v1,v2,v3,v4,v5,v6] t (0,0)))):w.cell? ⟨g,0,none⟩=some v0∧w.cell? ⟨g,1,none⟩=some v1∧w.cell? ⟨g,2,none⟩=some v2∧w.cell? ⟨g,3,none⟩=some v3∧w.cell? ⟨g,4,none⟩=some v4∧w.cell? ⟨g,5,none⟩=some v5∧w.cell? ⟨g,6,none⟩=some v6:=⟨(blk_cell h.out 0).trans rfl,(blk_cell h.out 1).trans rfl,(blk_cell h.out 2).trans rfl,(blk_cell h.out 3).trans rfl,(blk_cell h.out 4).trans rfl,(blk_cell h.out 5).trans rfl,(blk_cell h.out 6).trans rfl⟩
theorem fz7_ {w:World}{g:Nat}{cs:Array Value}{t:TypeId}(h:Aside0 (w.heap[g]? =some (.cells cs t (0,0)))):w.frozen? ⟨g,0,none⟩=false∧w.frozen? ⟨g,1,none⟩=false∧w.frozen? ⟨g,2,none⟩=false∧w.frozen? ⟨g,3,none⟩=false∧w.frozen? ⟨g,4,none⟩=false∧w.frozen? ⟨g,5,none⟩=false∧w.frozen? ⟨g,6,none⟩=false:=⟨blk_frozen h.out 0,blk_frozen h.out 1,blk_frozen h.out 2,blk_frozen h.out 3,blk_frozen h.out 4,blk_frozen h.out 5,blk_frozen h.out 6⟩
theorem cz8_ {w:World}{g:Nat}{t:TypeId}{v0 v1 v2 v3 v4 v5 v6 v7:Value}(h:Aside0 (w.heap[g]? =some (.cells #[v0,v1,v2,v3,v4,v5,v6,v7] t (0,0)))):w.cell? ⟨g,0,none⟩=some v0∧w.cell? ⟨g,1,none⟩=some v1∧w.cell? ⟨g,2,none⟩=some v2∧w.cell? ⟨g,3,none⟩=some v3∧w.cell? ⟨g,4,none⟩=some v4∧w.cell? ⟨g,5,none⟩=some v5∧w.cell? ⟨g,6,none⟩=some v6∧w.cell? ⟨g,7,none⟩=some v7:=⟨(blk_cell h.out 0).trans rfl,(blk_cell h.out 1).trans rfl,(blk_cell h.out 2).trans rfl,(blk_cell h.out 3).trans rfl,(blk_cell h.out 4).trans rfl,(blk_cell h.out 5).trans rfl,(blk_cell h.out 6).trans rfl,(blk_cell h.out 7).trans rfl⟩
theorem fz8_ {w:World}{g:Nat}{cs:Array Value}{t:TypeId}(h:Aside0 (w.heap[g]? =some (.cells cs t (0,0)))):w.frozen? ⟨g,0,none⟩=false∧w.frozen? ⟨g,1,none⟩=false∧w.frozen? ⟨g,2,none⟩=false∧w.frozen? ⟨g,3,none⟩=false∧w.frozen? ⟨g,4,none⟩=false∧w.frozen? ⟨g,5,none⟩=false∧w.frozen? ⟨g,6,none⟩=false∧w.frozen? ⟨g,7,none⟩=false:=⟨blk_frozen h.out 0,blk_frozen h.out 1,blk_frozen h.out 2,blk_frozen h.out 3,blk_frozen h.out 4,blk_frozen h.out 5,blk_frozen h.out 6,blk_frozen h.out 7⟩
theorem fb_ {w:World}{g:Nat}{o:Obj}(h:w.heap[g]? =some o:=by(with_reducible repeat(first|refine blk_drewN ?_ _|refine blk_drew ?_|refine blk_alloc ?_ _|refine blk_far ?_ (Aside0.out (by assumption)) _));exact Aside0.out (by first|(with_reducible assumption)|assumption)):w.heap[g]? =some o:=h
theorem nb_ {w:World}{p:Addr}{v:Value}{g:Nat}(h:w.cell? p=some v)(hg:Aside0 (w.heap.size≤g)){q:Nat}(e:p.block=q:=by first|rfl|simp only[add_block]):q≠g:=e ▸ Nat.ne_of_lt (Nat.lt_of_lt_of_le (World.block_lt_of_cell? _ _ h) hg.out)
theorem bt_ {w W:World}(hb:Aside0 (Below w.heap.size w W)){p:Addr}{v:Value}(h:w.cell? p=some v):W.cell? p=some v:=(hb.out.cell (World.block_lt_of_cell? w _ h)).trans h
inductive Puts (w:World) (g:Nat) (cs:Array Value):World→Array Value→Prop
  |refl:Puts w g cs w cs
  |drewN {W:World} {c:Array Value} (h:Puts w g cs W c) (n:Nat):Puts w g cs (W.drewN n) c
  |drew {W:World} {c:Array Value} (h:Puts w g cs W c):Puts w g cs W.drew c
  |alloc {W:World} {c:Array Value} (h:Puts w g cs W c) (o:Obj):Puts w g cs (W.alloc o) c
  |put {W:World} {c:Array Value} (h:Puts w g cs W c) (i:Nat) (u:Value):Puts w g cs (W.setCell ⟨g,i,none⟩ u) (c.setIfInBounds i u)
theorem pt_ {w W:World}{g:Nat}{t:TypeId}{cs cs1 cs':Array Value}(h:Aside0 (w.heap[g]? =some (.cells cs t (0,0))))(e:Puts w g cs W cs1:=by with_reducible repeat(first|exact Puts.refl|apply Puts.put|apply Puts.drewN|apply Puts.drew|apply Puts.alloc))(hc:cs1=cs':=by rfl):W.heap[g]? =some (.cells cs' t (0,0)):=by
  subst hc
  induction e with
  |refl=>exact h.out
  |drewN _ n ih=>exact blk_drewN ih n
  |drew _ ih=>exact blk_drew ih
  |alloc _ o ih=>exact blk_alloc ih o
  |put _ i u ih=>exact blk_put ih i u rfl
theorem gs_ {P:Program}{ops:Array Oper}{Q:Exit→Act→World→Prop}{rest:List Oper}{oi:Oper}{a:Act}{w:World}(N:Option Tmp){f:FuncId}{fn:Func}{as:Array Operand}{ts:Array TypeId}(hf:P.funcs[f]? =some fn)(args:Array Value)
    (h:Calls P f args w fun e w'=>∃v,e=.returned v∧wpList P ops Q rest (a.put N v) w') (hd:oi.dst=N:=by rfl) (hg:oi.guard=none:=by rfl) (hname:(fn.name== "runtime.NumGoroutine")=false:=by kernel_rfl) (hb:fn.body.isSome=true:=by rfl)
    (hop:oi.op=.call {callee:=.value (.func f),args:=as,argTypes:=ts}:=by rfl) (hargs:as.map a.eval=args:=by(try simp only[List.map_toArray,List.map_cons,List.map_nil]);first|done|rfl|(simp only[List.length_drop,List.length_take];rfl)):wpList P ops Q (oi::rest) a w:=
  goesL_ N hd hg hf hname hb args hop hargs h
theorem rk_ {α:Type}{d:Kd α}{e base:Nat}{w W:World}{ok:Nat→Prop}{v:Value}{xs:List α}(h:Aside0 (d.R e w base ok v xs))(l:Later w W:=by with_reducible repeat(first|exact Later.refl|refine Later.drewN ?_ _|refine Later.drew ?_|refine Later.alloc ?_ _)):d.R e W base ok v xs:=by
  induction l with
  |refl=>exact h.out
  |drewN _ n ih=>exact Kd.R_drewN ih n
  |drew _ ih=>exact Kd.R_drew ih
  |alloc _ o ih=>exact Kd.R_alloc ih o
theorem nk_ {α:Type}{d:Kd α}{e base:Nat}{w W:World}{ok:Nat→Prop}{v:Value}{xs:List α}(h:Aside0 (Kd.N d e w base ok v xs))(l:Later w W:=by with_reducible repeat(first|exact Later.refl|refine Later.drewN ?_ _|refine Later.drew ?_|refine Later.alloc ?_ _)):Kd.N d e W base ok v xs:=by
  induction l with
  |refl=>exact h.out
  |drewN _ n ih=>exact Kd.N_drewN ih n
  |drew _ ih=>exact Kd.N_drew ih
  |alloc _ o ih=>exact Kd.N_alloc ih o
theorem od_ {p:Prop}[Decidable p](h:decide p=true:=by first|(with_reducible assumption)|assumption):p:=of_decide_eq_true h
theorem ck_ {α:Type}{d:Kd α}{w W:World}{A:Option Addr}{n:Nat}{xs:List α}(h:d.C w A n xs)(l:Later w W:=by with_reducible repeat(first|exact Later.refl|refine Later.drewN ?_ _|refine Later.drew ?_|refine Later.alloc ?_ _)):d.C W A n xs:=by
  induction l with
  |refl=>exact h
  |drewN _ n ih=>exact Kd.C_drewN ih n
  |drew _ ih=>exact Kd.C_drew ih
  |alloc _ o ih=>exact Kd.C_alloc ih o
theorem kp_ {w w1 W:World}{S:Nat→Prop}(h:Aside0 (Go.Proofs.YtljmjjeghebdpaaW.PrintWords.Kept w w1 S))(l:Later w1 W:=by repeat(first|(with_reducible first|exact Later.refl|refine Later.drewN ?_ _|refine Later.drew ?_|refine Later.alloc ?_ _)|exact Later.refl)):Go.Proofs.YtljmjjeghebdpaaW.PrintWords.Kept w W S:=by
  induction l with
  |refl=>exact h.out
  |drewN _ n ih=>exact Go.Proofs.YtljmjjeghebdpaaW.PrintWords.Kept.drewN ih n
  |drew _ ih=>exact Go.Proofs.YtljmjjeghebdpaaW.PrintWords.Kept.drew ih
  |alloc _ o ih=>exact Go.Proofs.YtljmjjeghebdpaaW.PrintWords.Kept.alloc ih o
theorem rr_ {α:Type}{d:Kd α}{e base:Nat}{w W:World}{ok:Nat→Prop}{v:Value}{xs:List α}(h:Aside0 (d.R e w base ok v xs))(l:Later w W:=by(with_reducible repeat(first|exact Later.refl|refine Later.drewN ?_ _|refine Later.drew ?_|refine Later.alloc ?_ _))<;>exact Later.refl):d.R e W base ok v xs:=rk_ h l
theorem nr_ {α:Type}{d:Kd α}{e base:Nat}{w W:World}{ok:Nat→Prop}{v:Value}{xs:List α}(h:Aside0 (Kd.N d e w base ok v xs))(l:Later w W:=by(with_reducible repeat(first|exact Later.refl|refine Later.drewN ?_ _|refine Later.drew ?_|refine Later.alloc ?_ _))<;>exact Later.refl):Kd.N d e W base ok v xs:=nk_ h l
theorem sr_ {α:Type}{d:Kd α}{e base:Nat}{w W:World}{ok:Nat→Prop}{v:Value}{xs:List α}(h:Aside0 (Kd.S d e w base ok v xs))(l:Later w W:=by(with_reducible repeat(first|exact Later.refl|refine Later.drewN ?_ _|refine Later.drew ?_|refine Later.alloc ?_ _))<;>exact Later.refl):Kd.S d e W base ok v xs:=sk_ h l
theorem vr_ {α:Type}{d:Kd α}{e base:Nat}{w W:World}{ok:Nat→Prop}{v:Value}{xs:List α}(h:Aside0 (Kd.V d e w base ok v xs))(l:Later w W:=by(with_reducible repeat(first|exact Later.refl|refine Later.drewN ?_ _|refine Later.drew ?_|refine Later.alloc ?_ _))<;>exact Later.refl):Kd.V d e W base ok v xs:=vk_ h l
theorem aq_ {A B R:Prop}(f:A→B→R)(a:A:=by exact od_)(b:B:=by exact od_):(A=True)∧(B=True)∧R:=⟨eq_true a,eq_true b,f a b⟩
inductive PutsF (w:World) (g:Nat) (cs:Array Value):World→Array Value→Prop
  |refl:PutsF w g cs w cs
  |drewN {W:World} {c:Array Value} (h:PutsF w g cs W c) (n:Nat):PutsF w g cs (W.drewN n) c
  |drew {W:World} {c:Array Value} (h:PutsF w g cs W c):PutsF w g cs W.drew c
  |alloc {W:World} {c:Array Value} (h:PutsF w g cs W c) (o:Obj):PutsF w g cs (W.alloc o) c
  |put {W:World} {c:Array Value} (h:PutsF w g cs W c) (i:Nat) (u:Value):PutsF w g cs (W.setCell ⟨g,i,none⟩ u) (c.setIfInBounds i u)
  |far {W:World} {c:Array Value} (h:PutsF w g cs W c) {p:Addr} (hp:Aside0 (g≠p.block)) (u:Value):PutsF w g cs (W.setCell p u) c
theorem pu_ {w W:World}{g:Nat}{t:TypeId}{cs cs1 cs':Array Value}(h:Aside0 (w.heap[g]? =some (.cells cs t (0,0))))(e:PutsF w g cs W cs1:=by(with_reducible repeat(first|exact PutsF.refl|apply PutsF.put|apply PutsF.drewN|apply PutsF.drew|apply PutsF.alloc|apply PutsF.far))<;>assumption)(hc:cs1=cs':=by rfl):W.heap[g]? =some (.cells cs' t (0,0)):=by
  subst hc
  induction e with
  |refl=>exact h.out
  |drewN _ n ih=>exact blk_drewN ih n
  |drew _ ih=>exact blk_drew ih
  |alloc _ o ih=>exact blk_alloc ih o
  |put _ i u ih=>exact blk_put ih i u rfl
  |far _ hp u ih=>exact blk_far ih hp.out u
theorem bbf_ {w W w2:World}{g:Nat}{t:TypeId}{cs:Array Value}(h:Aside0 (w.heap[g]? =some (.cells cs t (0,0))))(hb:Below W.heap.size W w2)(e:PutsF w g cs W cs:=by(with_reducible repeat(first|exact PutsF.refl|refine PutsF.drewN ?_ _|refine PutsF.drew ?_|refine PutsF.alloc ?_ _|apply PutsF.far))<;>assumption):Aside0 (w2.heap[g]? =some (.cells cs t (0,0))):=⟨blk_below (pu_ h e rfl) hb⟩
theorem ve_ {α:Type}{d:Kd α}{e base:Nat}{w W w2:World}{ok:Nat→Prop}{v:Value}{xs:List α}{g:Nat}(h:Aside0 (Kd.V d e w base ok v xs))(hg:g=W.heap.size)(hb:Below W.heap.size W w2)(l:Later w W:=by with_reducible repeat(first|exact Later.refl|refine Later.drewN ?_ _|refine Later.drew ?_|refine Later.alloc ?_ _)):Aside0 (Kd.V d e w2 base (fun k_=>ok k_∧k_≠g) v xs):=⟨Kd.V_below (Kd.V_elderB (vk_ h l) g (Nat.le_of_eq hg.symm)) hb⟩
theorem ne_ {α:Type}{d:Kd α}{e base:Nat}{w W w2:World}{ok:Nat→Prop}{v:Value}{xs:List α}{g:Nat}(h:Aside0 (Kd.N d e w base ok v xs))(hg:g=W.heap.size)(hb:Below W.heap.size W w2)(l:Later w W:=by with_reducible repeat(first|exact Later.refl|refine Later.drewN ?_ _|refine Later.drew ?_|refine Later.alloc ?_ _)):Aside0 (Kd.N d e w2 base (fun k_=>ok k_∧k_≠g) v xs):=⟨Kd.N_below (Kd.N_elderB (nk_ h l) g (Nat.le_of_eq hg.symm)) hb⟩
theorem re_ {α:Type}{d:Kd α}{e base:Nat}{w W w2:World}{ok:Nat→Prop}{v:Value}{xs:List α}{g:Nat}(h:Aside0 (d.R e w base ok v xs))(hg:g=W.heap.size)(hb:Below W.heap.size W w2)(l:Later w W:=by with_reducible repeat(first|exact Later.refl|refine Later.drewN ?_ _|refine Later.drew ?_|refine Later.alloc ?_ _)):Aside0 (d.R e w2 base (fun k_=>ok k_∧k_≠g) v xs):=⟨Kd.R_below (Kd.R_elderB (rk_ h l) g (Nat.le_of_eq hg.symm)) hb⟩
theorem rb_ {α:Type}{d:Kd α}{e base:Nat}{w W w2:World}{ok:Nat→Prop}{v:Value}{xs:List α}(h:Aside0 (d.R e w base ok v xs))(hb:Below W.heap.size W w2)(l:Later w W:=by with_reducible repeat(first|exact Later.refl|refine Later.drewN ?_ _|refine Later.drew ?_|refine Later.alloc ?_ _)):Aside0 (d.R e w2 base ok v xs):=⟨Kd.R_below (rk_ h l) hb⟩
theorem nbl_ {α:Type}{d:Kd α}{e base:Nat}{w W w2:World}{ok:Nat→Prop}{v:Value}{xs:List α}(h:Aside0 (Kd.N d e w base ok v xs))(hb:Below W.heap.size W w2)(l:Later w W:=by with_reducible repeat(first|exact Later.refl|refine Later.drewN ?_ _|refine Later.drew ?_|refine Later.alloc ?_ _)):Aside0 (Kd.N d e w2 base ok v xs):=⟨Kd.N_below (nk_ h l) hb⟩
theorem bh_ {w W:World}(hb:Below w.heap.size w W){p:Addr}{v:Value}(h:w.cell? p=some v):W.cell? p=some v:=(hb.cell (World.block_lt_of_cell? _ _ h)).trans h
theorem bw_ {n:Nat}{w W:World}(h:Aside0 (Below n w W)):Aside0 (Below n w W.drew):=⟨below_drew1 h.out⟩
theorem eq_ {α:Type _}{a b:α}(h:a=b:=by first|rfl|(simp;done)|(simp[*];done)):a=b:=h
theorem er_ {α:Type _}{a b:α}(h:a=b:=by first|rfl|(simp[*]<;>rfl)):a=b:=h
theorem it_ {α:Type}{c:Prop}[Decidable c]{x:Option α}{y:α}(h:(if c then x else none)=some y):decide c=true∧x=some y:=by
  by_cases hc:c
  · rw[if_pos hc]at h;exact⟨decide_eq_true hc,h⟩
  · rw[if_neg hc]at h;exact absurd h (by simp)
theorem ip_ {α:Type}{c:Prop}[Decidable c]{x:Option α}{y:α}(h:(if c then x else none)=some y):c∧x=some y:=⟨of_decide_eq_true (it_ h).1,(it_ h).2⟩
theorem bi_ {α β:Type}{o:Option α}{f:α→Option β}{b:β}(h:o.bind f=some b):∃a,Aside0 (o=some a)∧f a=some b:=by
  obtain⟨a,h1,h2⟩:=Option.bind_eq_some_iff.mp h
  exact⟨a,⟨h1⟩,h2⟩
theorem kq_ {w w1 W:World}{S:Nat→Prop}(h:Aside0 (Go.Proofs.YtljmjjeghebdpaaW.PrintWords.Kept w w1 S))(e:Go.Proofs.Ytljmjjeghebdpaa.Short.Kept w.heap.size w1 W:=by with_reducible repeat(first|refine Go.Proofs.Ytljmjjeghebdpaa.Short.Kept.put ?_ (by assumption) _|exact Go.Proofs.Ytljmjjeghebdpaa.Short.Kept.refl|refine Go.Proofs.Ytljmjjeghebdpaa.Short.Kept.drewN ?_ _|refine Go.Proofs.Ytljmjjeghebdpaa.Short.Kept.drew ?_|refine Go.Proofs.Ytljmjjeghebdpaa.Short.Kept.alloc ?_ _)):Go.Proofs.YtljmjjeghebdpaaW.PrintWords.Kept w W S:=by
  induction e with
  |refl=>exact h.out
  |drewN _ n ih=>exact Go.Proofs.YtljmjjeghebdpaaW.PrintWords.Kept.drewN ih n
  |drew _ ih=>exact Go.Proofs.YtljmjjeghebdpaaW.PrintWords.Kept.drew ih
  |alloc _ o ih=>exact Go.Proofs.YtljmjjeghebdpaaW.PrintWords.Kept.alloc ih o
  |put _ hg u ih=>exact Go.Proofs.YtljmjjeghebdpaaW.PrintWords.Kept.setCell ih (.inr hg.out) u
theorem kz_ {w w1 W:World}{S:Nat→Prop}{b:Nat}(hg:b=W.heap.size)(h:Aside0 (Go.Proofs.YtljmjjeghebdpaaW.PrintWords.Kept w w1 S))(e:Go.Proofs.Ytljmjjeghebdpaa.Short.Kept w.heap.size w1 W:=by with_reducible repeat(first|refine Go.Proofs.Ytljmjjeghebdpaa.Short.Kept.put ?_ (by assumption) _|exact Go.Proofs.Ytljmjjeghebdpaa.Short.Kept.refl|refine Go.Proofs.Ytljmjjeghebdpaa.Short.Kept.drewN ?_ _|refine Go.Proofs.Ytljmjjeghebdpaa.Short.Kept.drew ?_|refine Go.Proofs.Ytljmjjeghebdpaa.Short.Kept.alloc ?_ _)):Aside0 (w.heap.size≤b):=⟨by rw[hg];exact(kq_ h e).1⟩
inductive Into (g:Nat) (w:World):World→Prop
  |refl:Into g w w
  |drewN {W:World} (h:Into g w W) (n:Nat):Into g w (W.drewN n)
  |drew {W:World} (h:Into g w W):Into g w W.drew
  |alloc {W:World} (h:Into g w W) (o:Obj):Into g w (W.alloc o)
  |put {W:World} (h:Into g w W) (i:Nat) (u:Value):Into g w (W.setCell ⟨g,i,none⟩ u)
theorem rf_ (g:Nat){α:Type}{d:Kd α}{e base:Nat}{w W:World}{ok:Nat→Prop}{v:Value}{xs:List α}(h:d.R e w base ok v xs)(hok:∀k,ok k→k≠g)(l:Into g w W:=by with_reducible repeat(first|exact Into.refl|refine Into.put ?_ _ _|refine Into.drewN ?_ _|refine Into.drew ?_|refine Into.alloc ?_ _)):d.R e W base ok v xs:=by
  induction l with
  |refl=>exact h
  |drewN _ n ih=>exact Kd.R_drewN ih n
  |drew _ ih=>exact Kd.R_drew ih
  |alloc _ o ih=>exact Kd.R_alloc ih o
  |put _ i u ih=>exact Kd.R_far (p:=⟨g,i,none⟩) ih hok u
theorem sf_ (g:Nat){α:Type}{d:Kd α}{e base:Nat}{w W:World}{ok:Nat→Prop}{v:Value}{xs:List α}(h:Kd.S d e w base ok v xs)(hok:∀k,ok k→k≠g)(l:Into g w W:=by with_reducible repeat(first|exact Into.refl|refine Into.put ?_ _ _|refine Into.drewN ?_ _|refine Into.drew ?_|refine Into.alloc ?_ _)):Kd.S d e W base ok v xs:=by
  induction l with
  |refl=>exact h
  |drewN _ n ih=>exact Kd.S_drewN ih n
  |drew _ ih=>exact Kd.S_drew ih
  |alloc _ o ih=>exact Kd.S_alloc ih o
  |put _ i u ih=>exact Kd.S_far (p:=⟨g,i,none⟩) ih hok u
theorem nf_ (g:Nat){α:Type}{d:Kd α}{e base:Nat}{w W:World}{ok:Nat→Prop}{v:Value}{xs:List α}(h:Kd.N d e w base ok v xs)(hok:∀k,ok k→k≠g)(l:Into g w W:=by with_reducible repeat(first|exact Into.refl|refine Into.put ?_ _ _|refine Into.drewN ?_ _|refine Into.drew ?_|refine Into.alloc ?_ _)):Kd.N d e W base ok v xs:=by
  induction l with
  |refl=>exact h
  |drewN _ n ih=>exact Kd.N_drewN ih n
  |drew _ ih=>exact Kd.N_drew ih
  |alloc _ o ih=>exact Kd.N_alloc ih o
  |put _ i u ih=>exact Kd.N_far (p:=⟨g,i,none⟩) ih hok u
theorem vf_ (g:Nat){α:Type}{d:Kd α}{e base:Nat}{w W:World}{ok:Nat→Prop}{v:Value}{xs:List α}(h:Kd.V d e w base ok v xs)(hok:∀k,ok k→k≠g)(l:Into g w W:=by with_reducible repeat(first|exact Into.refl|refine Into.put ?_ _ _|refine Into.drewN ?_ _|refine Into.drew ?_|refine Into.alloc ?_ _)):Kd.V d e W base ok v xs:=by
  induction l with
  |refl=>exact h
  |drewN _ n ih=>exact Kd.V_drewN ih n
  |drew _ ih=>exact Kd.V_drew ih
  |alloc _ o ih=>exact Kd.V_alloc ih o
  |put _ i u ih=>exact Kd.V_far (p:=⟨g,i,none⟩) ih hok u
theorem nbx_ {w:World}{a:Addr}{v:Value}{g:Nat}(h:w.cell? a=some v)(hg:Aside0 (w.heap.size≤g)):a.block≠g:=Nat.ne_of_lt (Nat.lt_of_lt_of_le (World.block_lt_of_cell? _ _ h) hg.out)
theorem hl_ {p:Prop}(h:p:=by repeat' (first|apply And.intro|exact bc_ (by assumption) _|exact bt_ (by assumption) (by assumption))):p:=h
theorem hm_ {p:Prop}(h:p:=by(repeat' apply And.intro)<;>(repeat(first|(with_reducible ((have h_:=hHeld;repeat(first|exact h_.1|exact h_|replace h_:=h_.2));done))|(with_reducible refine(cell_far (Aside0.out (by assumption)) _).trans ?_)|(with_reducible refine(cell_far (nbx_ (w:=w) (by assumption) (by assumption)) _).trans ?_)))):p:=h
theorem dup1_ {w:World}{g:Nat}{u:Value}(h:w.cell? ⟨g,1,none⟩=some u)(a b s t:Value):((((w.setCell ⟨g,0,none⟩ a).setCell ⟨g,1,none⟩ b).setCell ⟨g,2,none⟩ s).setCell ⟨g,1,none⟩ t).cell? ⟨g,1,none⟩=some t:=by
  have h1:(w.setCell ⟨g,0,none⟩ a).cell? ⟨g,1,none⟩=some u:=(World.cell?_setCell_other w ⟨g,0,none⟩ ⟨g,1,none⟩ a (by simp)).trans h
  have h2:((w.setCell ⟨g,0,none⟩ a).setCell ⟨g,1,none⟩ b).cell? ⟨g,1,none⟩=some b:=World.cell?_setCell_same' _ _ _ (by rw[h1];rfl)
  have h3:(((w.setCell ⟨g,0,none⟩ a).setCell ⟨g,1,none⟩ b).setCell ⟨g,2,none⟩ s).cell? ⟨g,1,none⟩=some b:=(World.cell?_setCell_other _ ⟨g,2,none⟩ ⟨g,1,none⟩ s (by simp)).trans h2
  exact World.cell?_setCell_same' _ _ _ (by rw[h3];rfl)
theorem cw1_ {w:World}{g:Nat}{t:TypeId}{v0:Value}{p:Prop}(h:Aside0 (w.heap[g]? =some (.cells #[v0] t (0,0))))(r:p):w.cell? ⟨g,0,none⟩=some v0∧p:=⟨(blk_cell h.out 0).trans rfl,r⟩
theorem cw2_ {w:World}{g:Nat}{t:TypeId}{v0 v1:Value}{p:Prop}(h:Aside0 (w.heap[g]? =some (.cells #[v0,v1] t (0,0))))(r:p):w.cell? ⟨g,0,none⟩=some v0∧w.cell? ⟨g,1,none⟩=some v1∧p:=⟨(blk_cell h.out 0).trans rfl,(blk_cell h.out 1).trans rfl,r⟩
theorem cw3_ {w:World}{g:Nat}{t:TypeId}{v0 v1 v2:Value}{p:Prop}(h:Aside0 (w.heap[g]? =some (.cells #[v0,v1,v2] t (0,0))))(r:p):w.cell? ⟨g,0,none⟩=some v0∧w.cell? ⟨g,1,none⟩=some v1∧w.cell? ⟨g,2,none⟩=some v2∧p:=⟨(blk_cell h.out 0).trans rfl,(blk_cell h.out 1).trans rfl,(blk_cell h.out 2).trans rfl,r⟩
theorem cw4_ {w:World}{g:Nat}{t:TypeId}{v0 v1 v2 v3:Value}{p:Prop}(h:Aside0 (w.heap[g]? =some (.cells #[v0,v1,v2,v3] t (0,0))))(r:p):w.cell? ⟨g,0,none⟩=some v0∧w.cell? ⟨g,1,none⟩=some v1∧w.cell? ⟨g,2,none⟩=some v2∧w.cell? ⟨g,3,none⟩=some v3∧p:=⟨(blk_cell h.out 0).trans rfl,(blk_cell h.out 1).trans rfl,(blk_cell h.out 2).trans rfl,(blk_cell h.out 3).trans rfl,r⟩
theorem cw5_ {w:World}{g:Nat}{t:TypeId}{v0 v1 v2 v3 v4:Value}{p:Prop}(h:Aside0 (w.heap[g]? =some (.cells #[v0,v1,v2,v3,v4] t (0,0))))(r:p):w.cell? ⟨g,0,none⟩=some v0∧w.cell? ⟨g,1,none⟩=some v1∧w.cell? ⟨g,2,none⟩=some v2∧w.cell? ⟨g,3,none⟩=some v3∧w.cell? ⟨g,4,none⟩=some v4∧p:=⟨(blk_cell h.out 0).trans rfl,(blk_cell h.out 1).trans rfl,(blk_cell h.out 2).trans rfl,(blk_cell h.out 3).trans rfl,(blk_cell h.out 4).trans rfl,r⟩
theorem cw6_ {w:World}{g:Nat}{t:TypeId}{v0 v1 v2 v3 v4 v5:Value}{p:Prop}(h:Aside0 (w.heap[g]? =some (.cells #[v0,v1,v2,v3,v4,v5] t (0,0))))(r:p):w.cell? ⟨g,0,none⟩=some v0∧w.cell? ⟨g,1,none⟩=some v1∧w.cell? ⟨g,2,none⟩=some v2∧w.cell? ⟨g,3,none⟩=some v3∧w.cell? ⟨g,4,none⟩=some v4∧w.cell? ⟨g,5,none⟩=some v5∧p:=⟨(blk_cell h.out 0).trans rfl,(blk_cell h.out 1).trans rfl,(blk_cell h.out 2).trans rfl,(blk_cell h.out 3).trans rfl,(blk_cell h.out 4).trans rfl,(blk_cell h.out 5).trans rfl,r⟩
theorem cw7_ {w:World}{g:Nat}{t:TypeId}{v0 v1 v2 v3 v4 v5 v6:Value}{p:Prop}(h:Aside0 (w.heap[g]? =some (.cells #[v0,v1,v2,v3,v4,v5,v6] t (0,0))))(r:p):w.cell? ⟨g,0,none⟩=some v0∧w.cell? ⟨g,1,none⟩=some v1∧w.cell? ⟨g,2,none⟩=some v2∧w.cell? ⟨g,3,none⟩=some v3∧w.cell? ⟨g,4,none⟩=some v4∧w.cell? ⟨g,5,none⟩=some v5∧w.cell? ⟨g,6,none⟩=some v6∧p:=⟨(blk_cell h.out 0).trans rfl,(blk_cell h.out 1).trans rfl,(blk_cell h.out 2).trans rfl,(blk_cell h.out 3).trans rfl,(blk_cell h.out 4).trans rfl,(blk_cell h.out 5).trans rfl,(blk_cell h.out 6).trans rfl,r⟩
theorem cw8_ {w:World}{g:Nat}{t:TypeId}{v0 v1 v2 v3 v4 v5 v6 v7:Value}{p:Prop}(h:Aside0 (w.heap[g]? =some (.cells #[v0,v1,v2,v3,v4,v5,v6,v7] t (0,0))))(r:p):w.cell? ⟨g,0,none⟩=some v0∧w.cell? ⟨g,1,none⟩=some v1∧w.cell? ⟨g,2,none⟩=some v2∧w.cell? ⟨g,3,none⟩=some v3∧w.cell? ⟨g,4,none⟩=some v4∧w.cell? ⟨g,5,none⟩=some v5∧w.cell? ⟨g,6,none⟩=some v6∧w.cell? ⟨g,7,none⟩=some v7∧p:=⟨(blk_cell h.out 0).trans rfl,(blk_cell h.out 1).trans rfl,(blk_cell h.out 2).trans rfl,(blk_cell h.out 3).trans rfl,(blk_cell h.out 4).trans rfl,(blk_cell h.out 5).trans rfl,(blk_cell h.out 6).trans rfl,(blk_cell h.out 7).trans rfl,r⟩
theorem cz1_ {w:World}{g:Nat}{t:TypeId}{v:Value}(h:Aside0 (w.heap[g]? =some (.cells #[v] t (0,0)))):w.cell? ⟨g,0,none⟩=some v:=(blk_cell h.out 0).trans rfl
section
variable {P:Program} {ops:Array Oper} {Q:Exit→Act→World→Prop} {md:Region.Mode} {S:World→Prop} {ds:List Nat} {T:Bool × List (List Nat × List Nat)} {o:Oper} {rest:List Oper} {a:Act} {Kc:Act→World→Prop}
theorem bx_ {W:World}(N:Tmp)(cs:Array Value)(t:TypeId)(h:∀g,g=W.heap.size→∀w1,w1.heap[g]? =some (.cells cs t (0,0))→Below W.heap.size W w1→wpList P ops Q rest (a.put o.dst (.pointer (some ⟨g,0,none⟩))) w1)(hd:o.dst=some N:=by rfl)(hgd:o.guard=none:=by rfl)
    (hrun:(execOp a.eval o).run P W=.ok (.value (.pointer (some ⟨W.heap.size,0,none⟩))) (W.alloc (.cells cs t (0,0))):=by first|(go_simp;done)|(go_simp;rfl)):wpList P ops Q (o::rest) a W:=box_event hgd hd hrun h
theorem by_ {W:World}(N:Tmp)(cs:Array Value)(t:TypeId)(h:∀g,g=W.heap.size→∀w1,w1.heap[g]? =some (.cells cs t (0,0))→Below W.heap.size W w1→Kc (a.put o.dst (.pointer (some ⟨g,0,none⟩))) w1)(hd:o.dst=some N:=by rfl)(hw:Region.wanted o (yielded ops a.tmps)=true:=by rfl)
    (hrun:(execOp a.eval o).run P W=.ok (.value (.pointer (some ⟨W.heap.size,0,none⟩))) (W.alloc (.cells cs t (0,0))):=by first|(go_simp;done)|(go_simp;rfl)):if Region.wanted o (yielded ops a.tmps)=true then Oper.wp P o a W Kc Q else Kc (a.put o.dst undef) W:=box_step hw hd hrun h
theorem sx_ {id n:Nat}{w W:World}{p:Prop}(hD:w.drew=W)(hp:p)(h:S W→wpAnyLast P .any ops Q S ds n (mB n 0) a W)(e:p=S W:=by rfl)(hm:P.follows .mixedOrders=true:=by kernel_rfl)(hn:ops.size=n:=by rfl)(hl:Array.replicate n false=mB n 0:=by rfl):(Code.region id ops true).wp P Q a w:=by
  subst hD
  exact start_ (mB n 0) hm hn hl (e ▸ hp) h
theorem nm_ (N:Nat){fuel:Nat}{l:Array Bool}{b a':Act}{v:Value}{w:World}(h:wpAnyLast P md ops Q S ds fuel l a' w)(hb:a=Act.put b (some N) v:=by rfl)(ha:Act.put b (some N) v=a':=by simp only[Act.put,sa_,sb_,sc_,i64_w,i32_w];rfl):wpAnyLast P md ops Q S ds fuel l a w:=norm_ (hb.trans ha) h
theorem go2_ {oi:Oper}{N:Option Tmp}{w:World}{f:FuncId}{fn:Func}{as:Array Operand}{ts:Array TypeId}(hf:P.funcs[f]? =some fn)(args:Array Value)
    (h:Calls P f args w fun e w'=>∃v,e=.returned v∧Kc (a.put N v) w') (hname:(fn.name== "runtime.NumGoroutine")=false:=by kernel_rfl) (hb:fn.body.isSome=true:=by rfl) (hw:Region.wanted oi (yielded ops a.tmps)=true:=by rfl) (hN:oi.dst=N:=by rfl)
    (hop:oi.op=.call {callee:=.value (.func f),args:=as,argTypes:=ts}:=by rfl) (hargs:as.map a.eval=args:=by(try simp only[List.map_toArray,List.map_cons,List.map_nil]);first|done|rfl|(simp only[List.length_drop,List.length_take];rfl)):if Region.wanted oi (yielded ops a.tmps)=true then Oper.wp P oi a w Kc Q else Kc (a.put N undef) w:=
  goes_ hf hname hb args hw hN hop hargs h
theorem uq_ (is:List (Nat × Nat))(fuel n x:Nat){F:Nat}{l:Array Bool}{w:World}{a':Act}(hT:Aside0 (rtab md ops=T))(h:wpAnyLast P md ops Q S ds fuel (mB n x) a' w)(hf:F=fuel+is.length:=by rfl)(hw:unwB ops is a=true:=by kernel_rfl)(hc:unwT T is l (mB n x)=true:=by kernel_rfl)
    (hQ:∀(N:Nat) c a w,Q (.panic c) (a.put (some N) undef) w→Q (.panic c) a w:=by exact fun _ _ _ _ h=>h) (ha:unwA is a=a':=by simp only[unwA,Act.put,sa_,sb_,sc_,i64_w,i32_w];rfl):wpAnyLast P md ops Q S ds F l a w:=un_ is (mB n x) hf hT hw hc hQ ha h
theorem oq_ (i:Nat)(N:Option Tmp)(n x:Nat){oi:Oper}{fuel:Nat}{l:Array Bool}{w:World}(hT:Aside0 (rtab md ops=T))
    (h:∀K:Act→World→Prop,Shut (∀a' w',S w'→(S w'→wpAnyLast P md ops Q S ds fuel (mB n x) a' w')→K a' w')→if Region.wanted oi (yielded ops a.tmps)=true then Oper.wp P oi a w K Q else K (a.put N undef) w) (hi:ops[i]? =some oi:=by rfl) (hN:oi.dst=N:=by rfl)
    (hc:(readyT T.2 l.toList==[i] && l.toList.set i true==(mB n x).toList)=true:=by kernel_rfl) (hd:i∉ds:=by decide):wpAnyLast P md ops Q S ds (fuel+1) l a w:=one_ (mB n x) hi hN (one_of hT.out hc) hd h
theorem dq_ {l:Array Bool}{w:World}{n:Nat}(hT:Aside0 (rtab md ops=T))(h:Q .normal a w)(hc:(readyT T.2 l.toList==[])=true:=by kernel_rfl):wpAnyLast P md ops Q S ds n l a w:=done_ (done_of hT.out hc) h
end
theorem fo_ {w W W':World}{g:Nat}{t:TypeId}{cs:Array Value}(hw:W'=W)(h:Aside0 (w.heap[g]? =some (.cells cs t (0,0))))(e:PutsF w g cs W cs:=by(with_reducible repeat(first|exact PutsF.refl|refine PutsF.drewN ?_ _|refine PutsF.drew ?_|refine PutsF.alloc ?_ _|apply PutsF.far))<;>assumption):Aside0 (W'.heap[g]? =some (.cells cs t (0,0))):=⟨by rw[hw];exact pu_ h e rfl⟩
theorem lo_ {w w1 W W':World}(hw:W'=W)(h:Aside0 (Below w.heap.size w w1))(e:Go.Proofs.Ytljmjjeghebdpaa.Short.Kept w.heap.size w1 W:=by with_reducible repeat(first|refine Go.Proofs.Ytljmjjeghebdpaa.Short.Kept.put ?_ (by assumption) _|exact Go.Proofs.Ytljmjjeghebdpaa.Short.Kept.refl|refine Go.Proofs.Ytljmjjeghebdpaa.Short.Kept.drewN ?_ _|refine Go.Proofs.Ytljmjjeghebdpaa.Short.Kept.drew ?_|refine Go.Proofs.Ytljmjjeghebdpaa.Short.Kept.alloc ?_ _)):Aside0 (Below w.heap.size w W'):=⟨by rw[hw];exact bl_ h e⟩
theorem ko_ {w w1 W W':World}{S:Nat→Prop}(hw:W'=W)(h:Aside0 (Go.Proofs.YtljmjjeghebdpaaW.PrintWords.Kept w w1 S))(e:Go.Proofs.Ytljmjjeghebdpaa.Short.Kept w.heap.size w1 W:=by with_reducible repeat(first|refine Go.Proofs.Ytljmjjeghebdpaa.Short.Kept.put ?_ (by assumption) _|exact Go.Proofs.Ytljmjjeghebdpaa.Short.Kept.refl|refine Go.Proofs.Ytljmjjeghebdpaa.Short.Kept.drewN ?_ _|refine Go.Proofs.Ytljmjjeghebdpaa.Short.Kept.drew ?_|refine Go.Proofs.Ytljmjjeghebdpaa.Short.Kept.alloc ?_ _)):Aside0 (Go.Proofs.YtljmjjeghebdpaaW.PrintWords.Kept w W' S):=⟨by rw[hw];exact kq_ h e⟩
section
variable {P:Program} {ops:Array Oper} {Q:Exit→Act→World→Prop} {md:Region.Mode} {S:World→Prop} {ds:List Nat} {T:Bool × List (List Nat × List Nat)} {o:Oper} {rest:List Oper} {a:Act} {Kc:Act→World→Prop}
theorem gc_ {oi:Oper}{w:World}(N:Option Tmp){f:FuncId}{fn:Func}{as:Array Operand}{ts:Array TypeId}{args:Array Value}{R:Ending→World→Prop}(hf:P.funcs[f]? =some fn)(hc:Calls P f args w R)(h:∀e w',R e w'→∃v,e=.returned v∧wpList P ops Q rest (a.put N v) w')
    (hd:oi.dst=N:=by rfl) (hg:oi.guard=none:=by rfl) (hname:(fn.name== "runtime.NumGoroutine")=false:=by kernel_rfl) (hb:fn.body.isSome=true:=by rfl) (hop:oi.op=.call {callee:=.value (.func f),args:=as,argTypes:=ts}:=by rfl) (hargs:as.map a.eval=args:=by(try simp only[List.map_toArray,List.map_cons,List.map_nil]);first|done|rfl|(simp only[List.length_drop,List.length_take];rfl)):wpList P ops Q (oi::rest) a w:=
  goesL_ N hd hg hf hname hb args hop hargs (hc.mono fun e w' r=>h e w' r)
theorem gd_ {oi:Oper}{w:World}(N:Option Tmp){f:FuncId}{fn:Func}{as:Array Operand}{ts:Array TypeId}{args:Array Value}{v:Value}{R:World→Prop}(hf:P.funcs[f]? =some fn)(hc:Calls P f args w fun e w'=>e=.returned v∧R w')(h:∀w',R w'→wpList P ops Q rest (a.put N v) w')
    (hd:oi.dst=N:=by rfl) (hg:oi.guard=none:=by rfl) (hname:(fn.name== "runtime.NumGoroutine")=false:=by kernel_rfl) (hb:fn.body.isSome=true:=by rfl) (hop:oi.op=.call {callee:=.value (.func f),args:=as,argTypes:=ts}:=by rfl) (hargs:as.map a.eval=args:=by(try simp only[List.map_toArray,List.map_cons,List.map_nil]);first|done|rfl|(simp only[List.length_drop,List.length_take];rfl)):wpList P ops Q (oi::rest) a w:=
  gc_ N hf hc (fun _ w' r=>⟨v,r.1,h w' r.2⟩) hd hg hname hb hop hargs
theorem gq_ (N:Tmp){w:World}(h:wpList P ops Q (o::rest) a w)(_hN:o.dst=some N:=by with_reducible rfl):wpList P ops Q (o::rest) a w:=h
theorem gk_ (f:FuncId){as:Array Operand}{ts:Array TypeId}{w:World}(h:wpList P ops Q (o::rest) a w)(_ho:o.op=.call {callee:=.value (.func f),args:=as,argTypes:=ts}:=by with_reducible rfl):wpList P ops Q (o::rest) a w:=h
theorem gr_ {oi:Oper}{N:Option Tmp}{w:World}{f:FuncId}{fn:Func}{as:Array Operand}{ts:Array TypeId}{args:Array Value}{R:Ending→World→Prop}(hf:P.funcs[f]? =some fn)(hc:Calls P f args w R)(h:∀e w',R e w'→∃v,e=.returned v∧Kc (a.put N v) w')(hname:(fn.name== "runtime.NumGoroutine")=false:=by kernel_rfl)(hb:fn.body.isSome=true:=by rfl)(hw:Region.wanted oi (yielded ops a.tmps)=true:=by rfl)(hN:oi.dst=N:=by rfl)
    (hop:oi.op=.call {callee:=.value (.func f),args:=as,argTypes:=ts}:=by rfl) (hargs:as.map a.eval=args:=by(try simp only[List.map_toArray,List.map_cons,List.map_nil]);first|done|rfl|(simp only[List.length_drop,List.length_take];rfl)):if Region.wanted oi (yielded ops a.tmps)=true then Oper.wp P oi a w Kc Q else Kc (a.put N undef) w:=
  go2_ hf args (hc.mono fun e w' r=>h e w' r) hname hb hw hN hop hargs
theorem gt_ {oi:Oper}{N:Option Tmp}{w:World}{f:FuncId}{fn:Func}{as:Array Operand}{ts:Array TypeId}{args:Array Value}{v:Value}{R:World→Prop}(hf:P.funcs[f]? =some fn)(hc:Calls P f args w fun e w'=>e=.returned v∧R w')(h:∀w',R w'→Kc (a.put N v) w')(hname:(fn.name== "runtime.NumGoroutine")=false:=by kernel_rfl)(hb:fn.body.isSome=true:=by rfl)(hw:Region.wanted oi (yielded ops a.tmps)=true:=by rfl)(hN:oi.dst=N:=by rfl)
    (hop:oi.op=.call {callee:=.value (.func f),args:=as,argTypes:=ts}:=by rfl) (hargs:as.map a.eval=args:=by(try simp only[List.map_toArray,List.map_cons,List.map_nil]);first|done|rfl|(simp only[List.length_drop,List.length_take];rfl)):if Region.wanted oi (yielded ops a.tmps)=true then Oper.wp P oi a w Kc Q else Kc (a.put N undef) w:=
  gr_ hf hc (fun _ w' r=>⟨v,r.1,h w' r.2⟩) hname hb hw hN hop hargs
theorem p1_ (i x:Nat){n N y:Nat}{oi:Oper}{v:Value}{fuel:Nat}{w:World}{a':Act}(h:wpAnyLast P md ops Q S ds fuel (mB n x) a' w)(hT:Aside0 (rtab md ops=T):=by assumption)(hi:ops[i]? =some oi:=by rfl)(hN:oi.dst=some N:=by rfl)(hw:Region.wanted oi (yielded ops a.tmps)=true:=by kernel_rfl)
    (hQ:∀c a w,Q (.panic c) (a.put oi.dst v) w→Q (.panic c) a w:=by exact fun _ _ _ h=>h) (hy:∀w,(execOp a.eval oi).run P w=.ok (.value v) w:=by intro w';go_simp;with_reducible rfl) (ha:a.put (some N) v=a':=by simp only[Act.put,sa_,sb_,sc_,i64_w,i32_w];rfl)
    (hc:anyT T (mB n y).toList (mB n x).toList i=true:=by kernel_rfl):wpAnyLast P md ops Q S ds (fuel+1) (mB n y) a w:=pq_ i N n x hT h hi hN hw hQ hy ha hc
theorem t1_ (i x:Nat){n N y:Nat}{B:List Nat}{oi:Oper}{v:Value}{fuel:Nat}{w:World}{a':Act}(h:wpAnyLast P md ops Q S ds fuel (mB n x) a' w)(hT:Aside0 (rtab md ops=T):=by assumption)(hW:Aside0 (waitsOk T.2 B=true):=by assumption)(hS:S w:=by assumption)(hi:ops[i]? =some oi:=by rfl)(hN:oi.dst=some N:=by rfl)
    (hw:Region.wanted oi (yielded ops a.tmps)=true:=by rfl) (hc:takeW T B ds (mB n y).toList (mB n x).toList i=true:=by kernel_rfl) (hQ:∀c a w,Q (.panic c) (a.put oi.dst v) w→Q (.panic c) a w:=by exact fun _ _ _ h=>h)
    (hy:∀w,S w→(execOp a.eval oi).run P w=.ok (.value v) w:=by intro w' hs_;(repeat(have h1_:=hs_.1;replace hs_:=hs_.2));go_simp;with_reducible rfl) (ha:a.put (some N) v=a':=by simp only[Act.put,sa_,sb_,sc_,i64_w,i32_w];rfl):wpAnyLast P md ops Q S ds (fuel+1) (mB n y) a w:=tq_ i N n x hT hW hS h hi hN hw hc hQ hy ha
end
theorem ic_ {α:Type}{c:Prop}[Decidable c]{x y:Option α}{z:α}(h:(if c then x else y)=some z):(decide c=true∧x=some z)∨(decide c=false∧y=some z):=by
  by_cases hc:c
  · exact .inl ⟨decide_eq_true hc,by rwa[if_pos hc]at h⟩
  · exact .inr ⟨decide_eq_false hc,by rwa[if_neg hc]at h⟩
end Go.Proofs.Ytljmjjeghebdpaa.PressMore
