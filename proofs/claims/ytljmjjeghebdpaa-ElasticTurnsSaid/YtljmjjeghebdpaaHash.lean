/- What a key's sum is, in plain numbers: its words rolled together modulo 2^61 - 1, to the power 17. The conditions stand in each lemma. -/
import Derived.Test.YtljmjjeghebdpaaWWords
import Derived.Test.YtljmjjeghebdpaaBits
namespace Go.Proofs.Ytljmjjeghebdpaa.Hash
open Go Go.RowKit Go.Proofs.YtljmjjeghebdpaaW.PrintWords Go.Proofs.Ytljmjjeghebdpaa.Bits
def wordAt (s:ByteArray)(i:Int):Int:=((bt s i*256+bt s (i+1))*256+bt s (i+2))*256+bt s (i+3)
def roll (s:ByteArray)(a:Int):Nat→Int→Int→Int
  |0,n,_=>n
  |m+1,n,i=>roll s a m ((n*a+wordAt s i+1)%2305843009213693951) (i+4)
def words (s:ByteArray):Nat:=(s.size+3)/4
def hsum (seed:Int)(s:ByteArray):Int:=
  (roll s ((seed+2)%2305843009213693951) (words s) s.size 0*((seed+2)%2305843009213693951)) ^ 17%2305843009213693951
theorem bt_out (s:ByteArray)(i:Int)(h:(s.size:Int)≤i):bt s i=0:=by
  unfold bt
  rw[dif_neg (by omega)]
theorem wordAt_range (s:ByteArray)(i:Int):0≤wordAt s i∧wordAt s i<4294967296:=by
  unfold wordAt
  have h0:=bt_range s i
  have h1:=bt_range s (i+1)
  have h2:=bt_range s (i+2)
  have h3:=bt_range s (i+3)
  omega
theorem roll_range (s:ByteArray)(a:Int):∀(m:Nat)(n i:Int),0≤n→n<2305843009213693951→0≤roll s a m n i∧roll s a m n i<2305843009213693951:=by
  intro m
  induction m with
  |zero=>intro n i h0 h1;exact⟨h0,h1⟩
  |succ m ih=>intro n i h0 h1;exact ih _ _ (by omega) (by omega)
theorem hsum_range (seed:Int)(s:ByteArray):0≤hsum seed s∧hsum seed s<2305843009213693951:=by
  unfold hsum
  omega
theorem roll_mod (s:ByteArray)(a:Int)(m:Nat)(n i:Int)(hm:0<m):roll s a m (n%2305843009213693951) i=roll s a m n i:=by
  obtain⟨m,rfl⟩:∃j,m=j+1:=⟨m-1,by omega⟩
  simp only[roll]
  have e:(n%2305843009213693951*a+wordAt s i+1)%2305843009213693951=(n*a+wordAt s i+1)%2305843009213693951:=by
    rw[Int.add_assoc,Int.add_assoc,Int.add_emod,Int.mul_emod,Int.emod_emod,←Int.mul_emod,←Int.add_emod]
  rw[e]
theorem bt_push (s:ByteArray)(i:Int):bt (s++(⟨#[0]⟩:ByteArray)) i=bt s i:=by
  unfold bt
  by_cases h:i.toNat<s.size
  · rw[dif_pos h,dif_pos (by rw[ByteArray.size_append];show i.toNat<s.size+1;omega)]
    rw[ByteArray.getElem_append_left h]
  · rw[dif_neg h]
    split
    · rename_i h2
      rw[ByteArray.getElem_append_right (by omega)]
      have h3:i.toNat<s.size+1:=by rw[ByteArray.size_append]at h2;exact h2
      have h4:i.toNat-s.size=0:=by omega
      simp only[h4]
      rfl
    · rfl
theorem wordAt_push (s:ByteArray)(i:Int):wordAt (s++(⟨#[0]⟩:ByteArray)) i=wordAt s i:=by
  unfold wordAt
  simp only[bt_push]
theorem roll_push (s:ByteArray)(a:Int):∀(m:Nat)(n i:Int),roll (s++(⟨#[0]⟩:ByteArray)) a m n i=roll s a m n i:=by
  intro m
  induction m with
  |zero=>intro n i;rfl
  |succ m ih=>intro n i;simp only[roll,wordAt_push,ih]
def hcell (seed:Int)(key:ByteArray)(n:Int):Int:=if n<1 then 0 else hsum seed key%n
def hmid (seed i:Int):Int:=((seed+3)%2305843009213693951*(((if i<0 then 0 else i)+2)%2305843009213693951)%2305843009213693951+5)%2305843009213693951
def hrow (seed i:Int):Int:=hmid seed i*hmid seed i%2305843009213693951
theorem hrow_range (seed i:Int):0≤hrow seed i∧hrow seed i<2305843009213693951:=by
  unfold hrow
  omega
theorem hcell_range (seed:Int)(key:ByteArray)(n:Int)(h:1≤n):0≤hcell seed key n∧hcell seed key n<n:=by
  unfold hcell
  rw[if_neg (by omega)]
  exact⟨Int.emod_nonneg _ (by omega),Int.emod_lt_of_pos _ (by omega)⟩
theorem words_le (s:ByteArray)(n:Nat)(h:s.size≤4*n):words s≤n:=by unfold words;omega
theorem rdOf_eq {α:Type}(d:α)(l:List α)(i:Nat)(h:i<l.length):rdOf d l (i:Int)=l[i]:=by
  simp[rdOf,h]
theorem rd_eq (l:List Int)(i:Nat)(h:i<l.length):rd l (i:Int)=l[i]:=by
  simp[rd,h]
end Go.Proofs.Ytljmjjeghebdpaa.Hash
