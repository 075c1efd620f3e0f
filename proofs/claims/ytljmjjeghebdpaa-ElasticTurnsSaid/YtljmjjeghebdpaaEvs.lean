/- What a plain function answers from some number of rounds on; a list or rows worked through from the left. -/
import Derived.Test.YtljmjjeghebdpaaWMore
namespace Go.Proofs.Ytljmjjeghebdpaa.Evs
set_option linter.unusedSimpArgs false
set_option linter.unusedVariables false
def Evt {α:Type}(f:Nat→Option α)(r:α):Prop:=∃n,∀k,n≤k→f k=some r
theorem Evt.now {α:Type}{f:Nat→Option α}{r:α}(h:∀k,f k=some r):Evt f r:=⟨0,fun k _=>h k⟩
theorem Evt.eq {α:Type}{f g:Nat→Option α}{r:α}(h:Evt g r)(e:∀k,f k=g k):Evt f r:=by
  obtain⟨n,h⟩:=h
  exact⟨n,fun k hk=>(e k).trans (h k hk)⟩
theorem Evt.step {α:Type}{f g:Nat→Option α}{r:α}(h:Evt g r)(e:∀k,f (k+1)=g k):Evt f r:=by
  obtain⟨n,h⟩:=h
  refine⟨n+1,fun k hk=>?_⟩
  obtain⟨k,rfl⟩:∃m,k=m+1:=⟨k-1,by omega⟩
  exact(e k).trans (h k (by omega))
theorem Evt.bind {α β:Type}{f:Nat→Option α}{g:Nat→α→Option β}{a:α}{r:β}(h:Evt f a)(hg:Evt (fun k=>g k a) r):Evt (fun k=>(f k).bind (g k)) r:=by
  obtain⟨n,h⟩:=h
  obtain⟨m,hg⟩:=hg
  refine⟨n+m,fun k hk=>?_⟩
  show(f k).bind (g k)=some r
  rw[h k (by omega)]
  exact hg k (by omega)
theorem Evt.ge {α:Type}{f:Nat→Option α}{r:α}(n:Nat)(h:∀k,n≤k→f k=some r):Evt f r:=⟨n,h⟩
theorem Evt.some_ {α:Type}{f:Nat→Option α}{r:α}(h:Evt f r):∃k,f k=some r:=by
  obtain⟨n,h⟩:=h
  exact⟨n,h n (Nat.le_refl _)⟩
def swp {α:Type}(f:Nat→α→α)(i:Nat)(l:List α):List α:=l.mapIdx fun j x=>if j<i then f j x else x
variable {α:Type} (f:Nat→α→α)
theorem swp_length (i:Nat)(l:List α):(swp f i l).length=l.length:=by simp[swp]
theorem swp_zero (l:List α):swp f 0 l=l:=by
  apply List.ext_getElem?
  intro j
  simp[swp]
theorem swp_get (i:Nat)(l:List α)(j:Nat):(swp f i l)[j]? =(l[j]?).map (fun x=>if j<i then f j x else x):=by simp[swp]
theorem swp_all (i:Nat)(l:List α)(h:l.length≤i):swp f i l=l.mapIdx f:=by
  apply List.ext_getElem?
  intro j
  rw[swp_get,List.getElem?_mapIdx]
  cases e:l[j]? with
  |none=>rfl
  |some x=>
    have:=(List.getElem?_eq_some_iff.1 e).1
    simp only[Option.map_some]
    rw[if_pos (by omega)]
theorem swp_set (i:Nat)(l:List α)(x:α)(h:l[i]? =some x):(swp f i l).set i (f i x)=swp f (i+1) l:=by
  apply List.ext_getElem?
  intro j
  have hi:=(List.getElem?_eq_some_iff.1 h).1
  by_cases e:i=j
  · subst e
    rw[List.getElem?_set_self (by rw[swp_length];exact hi),swp_get,h]
    simp
  · rw[List.getElem?_set_ne e,swp_get,swp_get]
    cases l[j]? with
    |none=>rfl
    |some y=>
      simp only[Option.map_some]
      by_cases e2:j<i
      · rw[if_pos e2,if_pos (by omega)]
      · rw[if_neg e2,if_neg (by omega)]
theorem swp_same (i:Nat)(l:List α)(h:∀x,l[i]? =some x→f i x=x):swp f i l=swp f (i+1) l:=by
  apply List.ext_getElem?
  intro j
  rw[swp_get,swp_get]
  cases e:l[j]? with
  |none=>rfl
  |some y=>
    simp only[Option.map_some]
    by_cases e2:j=i
    · subst e2
      rw[if_neg (by omega),if_pos (by omega),h y e]
    · by_cases e3:j<i
      · rw[if_pos e3,if_pos (by omega)]
      · rw[if_neg e3,if_neg (by omega)]
theorem swp_later (i:Nat)(l:List α)(j:Nat)(h:i≤j):(swp f i l)[j]? =l[j]?:=by
  rw[swp_get]
  cases l[j]? with
  |none=>rfl
  |some y=>simp only[Option.map_some];rw[if_neg (by omega)]
theorem getD_some (d:α)(l:List α)(i:Nat)(h:i<l.length):l[i]? =some (l.getD i d):=by
  rw[List.getD_eq_getElem?_getD,List.getElem?_eq_getElem h]
  rfl
theorem getD_of (d:α)(l:List α)(i:Nat)(x:α)(h:l[i]? =some x):l.getD i d=x:=by
  rw[List.getD_eq_getElem?_getD,h]
  rfl
theorem swp_set' (d:α)(i:Nat)(l:List α)(h:i<l.length):(swp f i l).set i (f i ((swp f i l).getD i d))=swp f (i+1) l:=by
  have e:(swp f i l).getD i d=l.getD i d:=by
    rw[List.getD_eq_getElem?_getD,List.getD_eq_getElem?_getD,swp_later f i l i (Nat.le_refl _)]
  rw[e]
  exact swp_set f i l _ (getD_some d l i h)
theorem swp_getD (d:α)(i:Nat)(l:List α)(j:Nat)(h:i≤j):(swp f i l).getD j d=l.getD j d:=by
  rw[List.getD_eq_getElem?_getD,List.getD_eq_getElem?_getD,swp_later f i l j h]
end Go.Proofs.Ytljmjjeghebdpaa.Evs
