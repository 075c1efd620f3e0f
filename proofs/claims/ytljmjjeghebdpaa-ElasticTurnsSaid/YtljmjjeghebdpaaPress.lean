/- Steps of the walks in few words: which operations of a region have come up is written as one number; what a step asks of the worlds is found by itself; a run of operations that are not wanted is one step. No condition beyond each lemma's own. -/
import Derived.Test.YtljmjjeghebdpaaShort
import Derived.Test.YtljmjjeghebdpaaWTab
import Derived.Test.YtljmjjeghebdpaaWApart
import Derived.KernelRfl
namespace Go.Proofs.Ytljmjjeghebdpaa.Press
open Go Go.RowKit Go.Proofs.YtljmjjeghebdpaaW.PrintWords Go.Proofs.YtljmjjeghebdpaaW.PrintMore Go.Proofs.YtljmjjeghebdpaaW.PrintLast Go.Proofs.Ytljmjjeghebdpaa.Short
def mL:Nat→Nat→List Bool
  |0,_=>[]
  |n+1,x=>(x%2==1) ::mL n (x/2)
def mB (n x:Nat):Array Bool:=⟨mL n x⟩
theorem sa_ {α:Type _}{l:List α}{i:Nat}{a:α}:l.toArray.setIfInBounds i a=(l.set i a).toArray:=by simp
theorem sb_ {α:Type _}{a b:α}{l:List α}:(a::l).set 0 b=b::l:=rfl
theorem sc_ {α:Type _}{a b:α}{l:List α}{i:Nat}:(a::l).set (i+1) b=a::l.set i b:=rfl
theorem sk_ {α:Type}{d:Kd α}{e base:Nat}{w W:World}{ok:Nat→Prop}{v:Value}{xs:List α}(h:Aside0 (Kd.S d e w base ok v xs))(l:Later w W:=by with_reducible repeat(first|exact Later.refl|refine Later.drewN ?_ _|refine Later.drew ?_|refine Later.alloc ?_ _)):Kd.S d e W base ok v xs:=by
  induction l with
  |refl=>exact h.out
  |drewN _ n ih=>exact Kd.S_drewN ih n
  |drew _ ih=>exact Kd.S_drew ih
  |alloc _ p ih=>exact Kd.S_alloc ih p
theorem vk_ {α:Type}{d:Kd α}{e base:Nat}{w W:World}{ok:Nat→Prop}{v:Value}{xs:List α}(h:Aside0 (Kd.V d e w base ok v xs))(l:Later w W:=by with_reducible repeat(first|exact Later.refl|refine Later.drewN ?_ _|refine Later.drew ?_|refine Later.alloc ?_ _)):Kd.V d e W base ok v xs:=by
  induction l with
  |refl=>exact h.out
  |drewN _ n ih=>exact Kd.V_drewN ih n
  |drew _ ih=>exact Kd.V_drew ih
  |alloc _ p ih=>exact Kd.V_alloc ih p
theorem nl_ {w W:World}{g b:Nat}{o:Obj}(hg:b=W.heap.size)(h:Aside0 (w.heap[g]? =some o))(e:Later w W:=by with_reducible repeat(first|exact Later.refl|refine Later.drewN ?_ _|refine Later.drew ?_|refine Later.alloc ?_ _)):g≠b:=by
  rw[hg];exact Nat.ne_of_lt (blk_lt (bk_ h e))
theorem ng_ {w W:World}{g b:Nat}{o:Obj}(hg:b=W.heap.size)(h:Aside0 (w.heap[g]? =some o))(e:Later w W:=by with_reducible repeat(first|exact Later.refl|refine Later.drewN ?_ _|refine Later.drew ?_|refine Later.alloc ?_ _)):b≠g:=by
  rw[hg];exact Nat.ne_of_gt (blk_lt (bk_ h e))
theorem gl_ {w w1 W:World}{b:Nat}(hg:b=W.heap.size)(h:Aside0 (Below w.heap.size w w1))(e:Kept w.heap.size w1 W:=by with_reducible repeat(first|refine Go.Proofs.Ytljmjjeghebdpaa.Short.Kept.put ?_ (by assumption) _|exact Go.Proofs.Ytljmjjeghebdpaa.Short.Kept.refl|refine Go.Proofs.Ytljmjjeghebdpaa.Short.Kept.drewN ?_ _|refine Go.Proofs.Ytljmjjeghebdpaa.Short.Kept.drew ?_|refine Go.Proofs.Ytljmjjeghebdpaa.Short.Kept.alloc ?_ _)):w.heap.size≤b:=by
  rw[hg];exact below_size (bl_ h e)
section
variable {P:Program} {ops:Array Oper} {Q:Exit→Act→World→Prop} {md:Region.Mode} {S:World→Prop} {ds:List Nat} {T:Bool × List (List Nat × List Nat)}
theorem pw_ (i N:Nat){oi:Oper}{v:Value}{fuel:Nat}{l:Array Bool}{a:Act}{w:World}(l':Array Bool)(hi:ops[i]? =some oi)(hN:oi.dst=some N)(hT:Aside0 (rtab md ops=T))(hw:Region.wanted oi (yielded ops a.tmps)=true)
    (hQ:∀c a w,Q (.panic c) (a.put oi.dst v) w→Q (.panic c) a w) (hy:∀w,(execOp a.eval oi).run P w=.ok (.value v) w) {a':Act} (ha:a.put (some N) v=a')
    (h:wpAnyLast P md ops Q S ds fuel l' a' w) (hc:anyT T l.toList l'.toList i=true:=by kernel_rfl):wpAnyLast P md ops Q S ds (fuel+1) l a w:=
  pure_ l' hi hN (any_of hT.out hc) hQ (Or.inl ⟨hw,hy⟩) ha h
def unwB (ops:Array Oper):List (Nat × Nat)→Act→Bool
  |[],_=>true
  |(i,N) ::is,a=>(match ops[i]? with|some o=>!(Region.wanted o (yielded ops a.tmps)) && (o.dst==some N)|none=>false) && unwB ops is (a.put (some N) undef)
def unwA:List (Nat × Nat)→Act→Act
  |[],a=>a
  |(_,N) ::is,a=>unwA is (a.put (some N) undef)
def unwT (T:Bool × List (List Nat × List Nat)):List (Nat × Nat)→Array Bool→Array Bool→Bool
  |[],l,l'=>l==l'
  |(i,_) ::is,l,l'=>anyT T l.toList (l.setIfInBounds i true).toList i && unwT T is (l.setIfInBounds i true) l'
theorem un_:∀(is:List (Nat × Nat)){F fuel:Nat}{l:Array Bool}{a:Act}{w:World}(l':Array Bool)(_hf:F=fuel+is.length)(_hT:Aside0 (rtab md ops=T))(_hw:unwB ops is a=true)(_hc:unwT T is l l'=true)
    (_hQ:∀(N:Nat) c a w,Q (.panic c) (a.put (some N) undef) w→Q (.panic c) a w) {a':Act} (_ha:unwA is a=a')
    (_h:wpAnyLast P md ops Q S ds fuel l' a' w),wpAnyLast P md ops Q S ds F l a w:=by
  intro is
  induction is with
  |nil=>
    intro F fuel l a w l' hf hT hw hc hQ a' ha h
    subst hf
    simp only[unwT,beq_iff_eq]at hc
    simp only[unwA]at ha
    subst hc
    subst ha
    exact h
  |cons p is ih=>
    obtain⟨i,N⟩:=p
    intro F fuel l a w l' hf hT hw hc hQ a' ha h
    subst hf
    simp only[unwB,Bool.and_eq_true]at hw
    simp only[unwT,Bool.and_eq_true]at hc
    simp only[unwA]at ha
    obtain⟨h1,h2⟩:=hw
    cases ho:ops[i]? with
    |none=>rw[ho]at h1;exact absurd h1 (by simp)
    |some o=>
      rw[ho]at h1
      simp only[Bool.and_eq_true,Bool.not_eq_true',beq_iff_eq]at h1
      rw[List.length_cons,←Nat.add_assoc]
      exact pure_ (l.setIfInBounds i true) ho h1.2 (any_of hT.out hc.1) (by rw[h1.2];exact hQ N) (Or.inr ⟨h1.1,rfl⟩) rfl (ih l' rfl hT h2 hc.2 hQ ha h)
end
end Go.Proofs.Ytljmjjeghebdpaa.Press
