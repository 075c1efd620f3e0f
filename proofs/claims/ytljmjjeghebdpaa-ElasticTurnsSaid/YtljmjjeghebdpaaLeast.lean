/- Counts in plain lists: rows of numbers between 0 and a most, a number more of a key, what is told of a key. The conditions stand in each lemma. -/
import Derived.Test.YtljmjjeghebdpaaWMore
import Derived.Test.YtljmjjeghebdpaaHash
namespace Go.Proofs.Ytljmjjeghebdpaa.Least
open Go Go.RowKit Go.Proofs.YtljmjjeghebdpaaW.PrintWords Go.Proofs.YtljmjjeghebdpaaW.PrintMore Go.Proofs.Ytljmjjeghebdpaa.Hash
set_option linter.unusedSimpArgs false
set_option linter.unusedVariables false
theorem mn_le (a b:Int):mn a b≤a∧mn a b≤b∧(mn a b=a∨mn a b=b):=by
  unfold mn
  split<;>omega
def rowOk (most:Int)(cols:Nat)(r:List Int):Prop:=1≤r.length∧r.length≤256∧r.length=cols∧∀x∈r,0≤x∧x≤most
def colsOf (rows:List (List Int)):Nat:=(rows.getD 0 []).length
def rightL (most:Int)(rows:List (List Int)):Prop:=1≤most∧most≤1099511627776∧1≤rows.length∧rows.length≤7∧∀r∈rows,rowOk most (colsOf rows) r
instance (most:Int) (cols:Nat) (r:List Int):Decidable (rowOk most cols r):=by unfold rowOk;infer_instance
instance (most:Int) (rows:List (List Int)):Decidable (rightL most rows):=by unfold rightL;infer_instance
def cellAt (seed:Int)(key:ByteArray)(j:Nat)(r:List Int):Int:=hcell (hrow seed j) key r.length
def freshRow (seed most:Int)(key:ByteArray)(n:Int)(j:Nat)(r:List Int):List Int:=
  r.set (cellAt seed key j r).toNat (mn (r.getD (cellAt seed key j r).toNat 0+n) most)
def addRows (seed most:Int)(key:ByteArray)(n:Int)(rows:List (List Int)):List (List Int):=
  (List.range rows.length).map (fun j=>freshRow seed most key n j (rows.getD j []))
def valAt (seed:Int)(key:ByteArray)(rows:List (List Int))(j:Nat):Int:=
  (rows.getD j []).getD (cellAt seed key j (rows.getD j [])).toNat 0
def downTo (f:Nat→Int):Nat→Nat→Int→Int
  |0,_,m=>m
  |d+1,j,m=>downTo f d (j+1) (mn m (f j))
def getL (seed most:Int)(key:ByteArray)(rows:List (List Int)):Int:=downTo (valAt seed key rows) rows.length 0 most
theorem getD_row (rows:List (List Int))(j:Nat)(h:j<rows.length):rows.getD j []∈rows:=by
  rw[List.getD_eq_getElem?_getD,List.getElem?_eq_getElem h]
  exact List.getElem_mem h
theorem getD_num (r:List Int)(j:Nat)(h:j<r.length):r.getD j 0∈r:=by
  rw[List.getD_eq_getElem?_getD,List.getElem?_eq_getElem h]
  exact List.getElem_mem h
theorem addRows_length (seed most:Int)(key:ByteArray)(n:Int)(rows:List (List Int)):(addRows seed most key n rows).length=rows.length:=by simp[addRows]
theorem addRows_get (seed most:Int)(key:ByteArray)(n:Int)(rows:List (List Int))(j:Nat)(h:j<rows.length):
    (addRows seed most key n rows).getD j []=freshRow seed most key n j (rows.getD j []):=by
  simp[addRows,List.getD_eq_getElem?_getD,h]
theorem freshRow_length (seed most:Int)(key:ByteArray)(n:Int)(j:Nat)(r:List Int):(freshRow seed most key n j r).length=r.length:=by simp[freshRow]
theorem ext_rows (a b:List (List Int))(h:a.length=b.length)(hg:∀j,j<a.length→a.getD j []=b.getD j []):a=b:=by
  apply List.ext_getElem h
  intro i h1 h2
  have e:=hg i h1
  simpa[List.getD_eq_getElem?_getD,h1,h2]using e
theorem freshRow_ok (seed most:Int)(key:ByteArray)(n:Int)(j cols:Nat)(r:List Int)(h:rowOk most cols r)(hm:0≤most)(hn:0≤n):rowOk most cols (freshRow seed most key n j r):=by
  obtain⟨h1,h2,h3,h4⟩:=h
  have hl:=freshRow_length seed most key n j r
  refine⟨by omega,by omega,by omega,fun x hx=>?_⟩
  unfold freshRow at hx
  rcases List.mem_or_eq_of_mem_set hx with hx|rfl
  · exact h4 x hx
  · have hc:=hcell_range (hrow seed j) key r.length (by omega)
    have hb:=h4 _ (getD_num r (cellAt seed key j r).toNat (by unfold cellAt;omega))
    have:=mn_le (r.getD (cellAt seed key j r).toNat 0+n) most
    omega
theorem addRows_cols (seed most:Int)(key:ByteArray)(n:Int)(rows:List (List Int))(h:1≤rows.length):colsOf (addRows seed most key n rows)=colsOf rows:=by
  unfold colsOf
  rw[addRows_get seed most key n rows 0 (by omega),freshRow_length]
theorem addRows_right (seed most:Int)(key:ByteArray)(n:Int)(rows:List (List Int))(h:rightL most rows)(hn:0≤n):rightL most (addRows seed most key n rows):=by
  obtain⟨h1,h2,h3,h4,h5⟩:=h
  refine⟨h1,h2,by rw[addRows_length];exact h3,by rw[addRows_length];exact h4,fun r hr=>?_⟩
  rw[addRows_cols seed most key n rows h3]
  unfold addRows at hr
  obtain⟨j,hj,rfl⟩:=List.mem_map.1 hr
  have hj2:=List.mem_range.1 hj
  exact freshRow_ok seed most key n j _ _ (h5 _ (getD_row rows j hj2)) (by omega) hn
end Go.Proofs.Ytljmjjeghebdpaa.Least
