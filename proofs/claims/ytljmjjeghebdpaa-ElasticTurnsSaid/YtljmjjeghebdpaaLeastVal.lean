/- What the rows of a counter hold of a key, with so many more of another, and the least of it, in plain lists. The conditions stand in each lemma. -/
import Derived.Test.YtljmjjeghebdpaaLeast
namespace Go.Proofs.Ytljmjjeghebdpaa.LeastVal
open Go Go.RowKit Go.Proofs.YtljmjjeghebdpaaW.PrintWords Go.Proofs.YtljmjjeghebdpaaW.PrintMore Go.Proofs.Ytljmjjeghebdpaa.Hash Go.Proofs.Ytljmjjeghebdpaa.Least
set_option linter.unusedSimpArgs false
set_option linter.unusedVariables false
theorem downTo_bound (f:Nat→Int):∀(d j:Nat)(m:Int),downTo f d j m≤m∧(∀i,j≤i→i<j+d→downTo f d j m≤f i)∧(downTo f d j m=m∨∃i,j≤i∧i<j+d∧downTo f d j m=f i):=by
  intro d
  induction d with
  |zero=>intro j m;exact⟨Int.le_refl _,fun i h1 h2=>by omega,Or.inl rfl⟩
  |succ d ih=>
    intro j m
    obtain⟨h1,h2,h3⟩:=ih (j+1) (mn m (f j))
    obtain⟨m1,m2,m3⟩:=mn_le m (f j)
    simp only[downTo]
    refine⟨by omega,fun i hi hj=>?_,?_⟩
    · by_cases e:i=j
      · subst e;omega
      · exact h2 i (by omega) (by omega)
    · rcases h3 with h3|⟨i,a,b,c⟩
      · rcases m3 with m3|m3
        · exact Or.inl (by omega)
        · exact Or.inr ⟨j,by omega,by omega,by omega⟩
      · exact Or.inr ⟨i,by omega,by omega,c⟩
theorem valAt_add (seed most:Int)(key key2:ByteArray)(n:Int)(rows:List (List Int))(j:Nat)(h:rightL most rows)(hj:j<rows.length):
    valAt seed key2 (addRows seed most key n rows) j=if cellAt seed key2 j (rows.getD j [])=cellAt seed key j (rows.getD j [])then mn (valAt seed key2 rows j+n) most else valAt seed key2 rows j:=by
  obtain⟨h1,h2,h3,h4,h5⟩:=h
  have hr:=h5 _ (getD_row rows j hj)
  have hc:=hcell_range (hrow seed j) key (rows.getD j []).length (by have:=hr.1;omega)
  have hc2:=hcell_range (hrow seed j) key2 (rows.getD j []).length (by have:=hr.1;omega)
  unfold valAt
  rw[addRows_get seed most key n rows j hj]
  have e:cellAt seed key2 j (freshRow seed most key n j (rows.getD j []))=cellAt seed key2 j (rows.getD j []):=by unfold cellAt;rw[freshRow_length]
  rw[e]
  by_cases c:cellAt seed key2 j (rows.getD j [])=cellAt seed key j (rows.getD j [])
  · rw[if_pos c,c]
    unfold freshRow
    have hlt:(cellAt seed key j (rows.getD j [])).toNat<(rows.getD j []).length:=by unfold cellAt;omega
    rw[List.getD_eq_getElem?_getD,List.getElem?_set_self hlt]
    rfl
  · rw[if_neg c]
    unfold freshRow
    have hne:(cellAt seed key j (rows.getD j [])).toNat≠(cellAt seed key2 j (rows.getD j [])).toNat:=by unfold cellAt at c ⊢;omega
    rw[List.getD_eq_getElem?_getD,List.getElem?_set_ne hne,←List.getD_eq_getElem?_getD]
theorem valAt_range (seed most:Int)(key:ByteArray)(rows:List (List Int))(j:Nat)(h:rightL most rows)(hj:j<rows.length):0≤valAt seed key rows j∧valAt seed key rows j≤most:=by
  have hr:=h.2.2.2.2 _ (getD_row rows j hj)
  have hc:=hcell_range (hrow seed j) key (rows.getD j []).length (by have:=hr.1;omega)
  exact hr.2.2.2 _ (getD_num _ _ (by unfold cellAt;omega))
theorem getL_range (seed most:Int)(key:ByteArray)(rows:List (List Int))(h:rightL most rows):0≤getL seed most key rows∧getL seed most key rows≤most:=by
  have hb:=downTo_bound (valAt seed key rows) rows.length 0 most
  unfold getL
  refine⟨?_,hb.1⟩
  rcases hb.2.2 with h1|⟨i,_,h2,h3⟩
  · have:=h.1;omega
  · have:=valAt_range seed most key rows i h (by omega);omega
end Go.Proofs.Ytljmjjeghebdpaa.LeastVal
