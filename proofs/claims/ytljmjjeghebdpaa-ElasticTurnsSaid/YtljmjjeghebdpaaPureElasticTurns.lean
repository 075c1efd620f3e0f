/- Whatever a sketch is: what it is with a key more, what it tells of it, and its list, are what the document says. No condition beyond the kinds of the arguments. -/
import Derived.Test.YtljmjjeghebdpaaPElasticTurnsy
import Derived.Test.YtljmjjeghebdpaaBits
import Derived.Test.YtljmjjeghebdpaaHash
import Derived.Test.YtljmjjeghebdpaaLeast
import Derived.Test.YtljmjjeghebdpaaLeastVal
import Derived.Test.YtljmjjeghebdpaaEvs
namespace Go.Proofs.Ytljmjjeghebdpaa.Pure
open Go.RowKit Go.Proofs.Ytljmjjeghebdpaa.PElasticTurns Go.Proofs.YtljmjjeghebdpaaW.PrintWords Go.Proofs.YtljmjjeghebdpaaW.PrintLast Go.Proofs.Ytljmjjeghebdpaa.Bits Go.Proofs.Ytljmjjeghebdpaa.Hash Go.Proofs.Ytljmjjeghebdpaa.Least Go.Proofs.Ytljmjjeghebdpaa.LeastVal Go.Proofs.Ytljmjjeghebdpaa.Evs
set_option maxRecDepth 100000
set_option linter.unusedSimpArgs false
set_option linter.unusedVariables false
theorem small_l0 (rows:List (List Int))(hl:rows.length≤9223372036854775807):∀(d k i:Nat),rows.length-i=d→i≤rows.length→d<k→
    ∃b,rillmeterref11_Small.l0 k rows i=some b:=by
  intro d
  induction d with
  |zero=>
    intro k i h0 hi hk
    obtain⟨k,rfl⟩:∃m,k=m+1:=⟨k-1,by omega⟩
    simp only[rillmeterref11_Small.l0]
    rw[if_neg (by omega)]
    exact⟨_,rfl⟩
  |succ d ih=>
    intro k i h0 hi hk
    obtain⟨k,rfl⟩:∃m,k=m+1:=⟨k-1,by omega⟩
    simp only[rillmeterref11_Small.l0]
    rw[if_pos (by omega),if_pos (by omega),i64_in ((i:Int)+1) (by omega) (by omega),show(i:Int)+1=((i+1:Nat):Int)by omega]
    by_cases c:((rd_L9 rows (i:Int)).length:Int)>300
    · rw[if_pos c];exact⟨_,rfl⟩
    · rw[if_neg c];exact ih k (i+1) (by omega) (by omega) (by omega)
theorem small_spec (k:Nat)(rows:List (List Int))(hl:rows.length≤9223372036854775807)(hk:rows.length<k):∃b,rillmeterref11_Small.f k rows=some b:=
  small_l0 rows hl rows.length k 0 (by omega) (by omega) hk
theorem min_l0 (l:List Int)(hl:l.length≤256):∀(d k i:Nat)(m:Int),l.length-i=d→i≤l.length→d<k→
    ∃t,slices_Min_int_int.l0 k l m i=some t∧∀c,c≤t↔(c≤m∧∀j,i≤j→j<l.length→c≤l.getD j 0):=by
  intro d
  induction d with
  |zero=>
    intro k i m h0 hi hk
    obtain⟨k,rfl⟩:∃m,k=m+1:=⟨k-1,by omega⟩
    simp only[slices_Min_int_int.l0]
    rw[if_neg (by omega)]
    exact⟨m,rfl,fun c=>⟨fun h=>⟨h,fun j a b=>by omega⟩,fun h=>h.1⟩⟩
  |succ d ih=>
    intro k i m h0 hi hk
    obtain⟨k,rfl⟩:∃m,k=m+1:=⟨k-1,by omega⟩
    have g:i<l.length:=by omega
    have e:rd l (i:Int)=l.getD i 0:=rfl
    have hm:=mn_le m (l.getD i 0)
    obtain⟨t,ht,ht2⟩:=ih k (i+1) (mn m (l.getD i 0)) (by omega) (by omega) (by omega)
    simp only[slices_Min_int_int.l0]
    rw[if_pos (by omega),if_pos (by omega),e,i64_in ((i:Int)+1) (by omega) (by omega),show(i:Int)+1=((i+1:Nat):Int)by omega]
    refine⟨t,ht,fun c=>(ht2 c).trans ⟨fun h=>⟨by have:=h.1;omega,fun j a b=>?_⟩,fun h=>⟨?_,fun j a b=>h.2 j (by omega) b⟩⟩⟩
    · by_cases e':j=i
      · subst e';have:=h.1;omega
      · exact h.2 j (by omega) b
    · have:=h.1;have:=h.2 i (Nat.le_refl _) g;omega
theorem min_spec (k:Nat)(l:List Int)(h1:1≤l.length)(hl:l.length≤256)(hk:258≤k):∃t,slices_Min_int_int.f k l=some t∧∀c,c≤t↔∀j,j<l.length→c≤l.getD j 0:=by
  obtain⟨t,ht,ht2⟩:=min_l0 l hl (l.length-1) k 1 (l.getD 0 0) (by omega) (by omega) (by omega)
  unfold slices_Min_int_int.f
  rw[if_pos (by omega)]
  refine⟨t,ht,fun c=>(ht2 c).trans ⟨fun h j b=>?_,fun h=>⟨h 0 (by omega),fun j _ b=>h j b⟩⟩⟩
  by_cases e:j=0
  · subst e;exact h.1
  · exact h.2 j (by omega) b
theorem mx_ge (a b:Int):a≤mx a b∧b≤mx a b∧(mx a b=a∨mx a b=b):=by
  unfold mx
  split<;>omega
theorem max_l0 (l:List Int)(hl:l.length≤256):∀(d k i:Nat)(m:Int),l.length-i=d→i≤l.length→d<k→
    ∃t,slices_Max_int_int.l0 k l m i=some t∧∀c,t≤c↔(m≤c∧∀j,i≤j→j<l.length→l.getD j 0≤c):=by
  intro d
  induction d with
  |zero=>
    intro k i m h0 hi hk
    obtain⟨k,rfl⟩:∃m,k=m+1:=⟨k-1,by omega⟩
    simp only[slices_Max_int_int.l0]
    rw[if_neg (by omega)]
    exact⟨m,rfl,fun c=>⟨fun h=>⟨h,fun j a b=>by omega⟩,fun h=>h.1⟩⟩
  |succ d ih=>
    intro k i m h0 hi hk
    obtain⟨k,rfl⟩:∃m,k=m+1:=⟨k-1,by omega⟩
    have g:i<l.length:=by omega
    have e:rd l (i:Int)=l.getD i 0:=rfl
    have hm:=mx_ge m (l.getD i 0)
    obtain⟨t,ht,ht2⟩:=ih k (i+1) (mx m (l.getD i 0)) (by omega) (by omega) (by omega)
    simp only[slices_Max_int_int.l0]
    rw[if_pos (by omega),if_pos (by omega),e,i64_in ((i:Int)+1) (by omega) (by omega),show(i:Int)+1=((i+1:Nat):Int)by omega]
    refine⟨t,ht,fun c=>(ht2 c).trans ⟨fun h=>⟨by have:=h.1;omega,fun j a b=>?_⟩,fun h=>⟨?_,fun j a b=>h.2 j (by omega) b⟩⟩⟩
    · by_cases e':j=i
      · subst e';have:=h.1;omega
      · exact h.2 j (by omega) b
    · have:=h.1;have:=h.2 i (Nat.le_refl _) g;omega
theorem max_spec (k:Nat)(l:List Int)(h1:1≤l.length)(hl:l.length≤256)(hk:258≤k):∃t,slices_Max_int_int.f k l=some t∧∀c,t≤c↔∀j,j<l.length→l.getD j 0≤c:=by
  obtain⟨t,ht,ht2⟩:=max_l0 l hl (l.length-1) k 1 (l.getD 0 0) (by omega) (by omega) (by omega)
  unfold slices_Max_int_int.f
  rw[if_pos (by omega)]
  refine⟨t,ht,fun c=>(ht2 c).trans ⟨fun h j b=>?_,fun h=>⟨h 0 (by omega),fun j _ b=>h j b⟩⟩⟩
  by_cases e:j=0
  · subst e;exact h.1
  · exact h.2 j (by omega) b
def rowB (most:Int)(rows:List (List Int))(r:List Int):Bool:=decide (rowOk most (colsOf rows) r)
theorem right_l0 (s most:Int)(rows:List (List Int))(h1:1≤rows.length)(h7:rows.length≤7):∀(d k i:Nat),rows.length-i=d→i≤rows.length→d+260≤k→
    least_Right.l0 k rows rows.length i s most rows=some ((rows.drop i).all (rowB most rows)):=by
  intro d
  induction d with
  |zero=>
    intro k i h0 hi hk
    obtain⟨k,rfl⟩:∃m,k=m+1:=⟨k-1,by omega⟩
    simp only[least_Right.l0]
    rw[if_neg (by omega),List.drop_of_length_le (by omega)]
    rfl
  |succ d ih=>
    intro k i h0 hi hk
    obtain⟨k,rfl⟩:∃m,k=m+1:=⟨k-1,by omega⟩
    have g:i<rows.length:=by omega
    have hb:=ih k (i+1) (by omega) (by omega) (by omega)
    have e:rd_L9 rows (i:Int)=rows[i]:=by
      show rows.getD i []=rows[i]
      simp[List.getD_eq_getElem?_getD,g]
    have e0:((rd_L9 rows 0).length:Int)=(colsOf rows:Int):=rfl
    rw[List.drop_eq_getElem_cons g,List.all_cons]
    simp only[least_Right.l0]
    rw[if_pos (by omega),if_pos (by omega),if_pos (by omega),e,e0,i64_in ((i:Int)+1) (by omega) (by omega),show(i:Int)+1=((i+1:Nat):Int)by omega]
    generalize rows[i]=r
    by_cases c1:(r.length:Int)<1
    · rw[if_pos c1,rowB,decide_eq_false (fun o=>by have:=o.1;omega)];rfl
    · rw[if_neg c1]
      by_cases c2:(r.length:Int)>256
      · rw[if_pos c2,rowB,decide_eq_false (fun o=>by have:=o.2.1;omega)];rfl
      · rw[if_neg c2,if_pos (by omega)]
        by_cases c3:(r.length:Int)=(colsOf rows:Int)
        · rw[if_pos c3]
          obtain⟨t,ht,ht2⟩:=min_spec k r (by omega) (by omega) (by omega)
          obtain⟨u,hu,hu2⟩:=max_spec k r (by omega) (by omega) (by omega)
          rw[ht];simp only[Option.bind_some]
          by_cases c4:t<0
          · rw[if_pos c4,rowB,decide_eq_false (fun o=>by have:=(ht2 0).2 (fun j hj=>(o.2.2.2 _ (getD_num r j hj)).1);omega)];rfl
          · rw[if_neg c4,hu];simp only[Option.bind_some]
            by_cases c5:u>most
            · rw[if_pos c5,rowB,decide_eq_false (fun o=>by have:=(hu2 most).2 (fun j hj=>(o.2.2.2 _ (getD_num r j hj)).2);omega)];rfl
            · rw[if_neg c5,rowB,decide_eq_true,hb];rfl
              refine⟨by omega,by omega,by omega,fun x hx=>?_⟩
              obtain⟨n,hn,hn2⟩:=List.mem_iff_getElem.1 hx
              have A:=(ht2 0).1 (by omega) n hn
              have B:=(hu2 most).1 (by omega) n hn
              have E:r.getD n 0=x:=by simp[List.getD_eq_getElem?_getD,hn,hn2]
              omega
        · rw[if_neg c3,rowB,decide_eq_false (fun o=>by have:=o.2.2.1;omega)];rfl
theorem all_rows (most:Int)(rows:List (List Int))(h1:1≤most)(h2:most≤1099511627776)(h3:1≤rows.length)(h4:rows.length≤7):rows.all (rowB most rows)=decide (rightL most rows):=by
  rw[Bool.eq_iff_iff,List.all_eq_true,decide_eq_true_iff]
  unfold rowB rightL
  exact⟨fun h=>⟨h1,h2,h3,h4,fun r hr=>of_decide_eq_true (h r hr)⟩,fun h r hr=>decide_eq_true (h.2.2.2.2 r hr)⟩
theorem right_spec (k:Nat)(s most:Int)(rows:List (List Int))(hk:300≤k):least_Right.f k s most rows=some (decide (rightL most rows)):=by
  obtain⟨k,rfl⟩:∃m,k=m+1:=⟨k-1,by omega⟩
  unfold least_Right.f
  by_cases c1:most<1
  · rw[if_pos c1,decide_eq_false (fun o=>by have:=o.1;omega)];rfl
  · rw[if_neg c1]
    by_cases c2:most>1099511627776
    · rw[if_pos c2,decide_eq_false (fun o=>by have:=o.2.1;omega)];rfl
    · rw[if_neg c2]
      by_cases c3:(rows.length:Int)<1
      · rw[if_pos c3,decide_eq_false (fun o=>by have:=o.2.2.1;omega)];rfl
      · rw[if_neg c3]
        by_cases c4:(rows.length:Int)>7
        · rw[decide_eq_true c4,decide_eq_false (fun o=>by have:=o.2.2.2.1;omega)];rfl
        · rw[decide_eq_false c4]
          simp only[least_Right.j0]
          rw[if_neg (by decide)]
          have h:=right_l0 s most rows (by omega) (by omega) rows.length k 0 (by omega) (by omega) (by omega)
          rw[List.drop_zero,all_rows most rows (by omega) (by omega) (by omega) (by omega)]at h
          exact h
theorem of_spec (a:Int)(h0:0≤a)(h1:a<18446744073709551616):field_Of.f a=some (a%2305843009213693951):=by
  unfold field_Of.f
  rw[and_p a h0 h1,u64_in _ (by omega) (by omega)]
  split
  · rw[u64_in _ (by omega) (by omega)]
    exact congrArg some (by omega)
  · exact congrArg some (by omega)
theorem add_spec (a b:Int)(h0:0≤a)(h1:a<18446744073709551616)(g0:0≤b)(g1:b<18446744073709551616):
    field_Add.f a b=some ((a+b)%2305843009213693951):=by
  unfold field_Add.f
  rw[of_spec a h0 h1,of_spec b g0 g1]
  simp only[Option.bind_some]
  rw[u64_in _ (by omega) (by omega),of_spec _ (by omega) (by omega)]
  simp only[Option.bind_some]
  exact congrArg some (by omega)
theorem mul64_spec (a b:Int)(h0:0≤a)(h1:a<18446744073709551616)(g0:0≤b)(g1:b<18446744073709551616):
    bits_Mul64.f a b=some (a*b/18446744073709551616,a*b%18446744073709551616):=by
  unfold bits_Mul64.f
  have hh:=halves a b
  obtain⟨p0,p1⟩:=mul_bd (a:=a/4294967296) (b:=b/4294967296) (by omega) (by omega) (by omega) (by omega)
  obtain⟨q0,q1⟩:=mul_bd (a:=a/4294967296) (b:=b%4294967296) (by omega) (by omega) (by omega) (by omega)
  obtain⟨r0,r1⟩:=mul_bd (a:=a%4294967296) (b:=b/4294967296) (by omega) (by omega) (by omega) (by omega)
  obtain⟨s0,s1⟩:=mul_bd (a:=a%4294967296) (b:=b%4294967296) (by omega) (by omega) (by omega) (by omega)
  rw[and_32 a h0 h1,and_32 b g0 g1]
  generalize a/4294967296*(b/4294967296)=p at *
  generalize a/4294967296*(b%4294967296)=q at *
  generalize a%4294967296*(b/4294967296)=r at *
  generalize a%4294967296*(b%4294967296)=s at *
  generalize a*b=m at *
  clear h0 h1 g0 g1
  rw[u64_in p (by omega) (by omega),u64_in q (by omega) (by omega),u64_in r (by omega) (by omega),u64_in s (by omega) (by omega)]
  rw[u64_in (q+s/4294967296) (by omega) (by omega)]
  rw[and_32 _ (by omega) (by omega)]
  rw[u64_in (p+_) (by omega) (by omega),u64_in (_+r) (by omega) (by omega),wrap_u64 m]
  rw[u64_in _ (by omega) (by omega)]
  exact congrArg some (Prod.ext (by show _=_;omega) rfl)
theorem mul_spec (a b:Int)(h0:0≤a)(h1:a<18446744073709551616)(g0:0≤b)(g1:b<18446744073709551616):
    field_Mul.f a b=some (a*b%2305843009213693951):=by
  unfold field_Mul.f
  rw[of_spec a h0 h1,of_spec b g0 g1,Int.mul_emod]
  simp only[Option.bind_some]
  have x0:0≤a%2305843009213693951:=by omega
  have x1:a%2305843009213693951≤2305843009213693950:=by omega
  have y0:0≤b%2305843009213693951:=by omega
  have y1:b%2305843009213693951≤2305843009213693950:=by omega
  generalize a%2305843009213693951=x at *
  generalize b%2305843009213693951=y at *
  rw[mul64_spec x y x0 (by omega) y0 (by omega)]
  simp only[Option.bind_some]
  have hm:0≤x*y∧x*y≤2305843009213693950*2305843009213693950:=⟨Int.mul_nonneg x0 y0,Int.mul_le_mul x1 y1 y0 (by omega)⟩
  generalize x*y=m at *
  obtain⟨m0,m1⟩:=hm
  rw[and_p _ (by omega) (by omega)]
  rw[u64_in (_*8) (by omega) (by omega)]
  rw[or_3 _ _ (by omega) (by omega) (by omega) (by omega) (by omega)]
  rw[u64_in _ (by omega) (by omega),of_spec _ (by omega) (by omega)]
  simp only[Option.bind_some]
  exact congrArg some (by omega)
theorem row_spec (seed i:Int)(h0:0≤seed)(h1:seed<18446744073709551616)(hi:i<9223372036854775808):hash_Row.f seed i=some (hrow seed i):=by
  unfold hash_Row.f hrow hmid
  have e:mx i 0=if i<0 then 0 else i:=rfl
  rw[e,add_spec seed 3 h0 h1 (by omega) (by omega)]
  generalize hj:(if i<0 then(0:Int)else i)=j
  have hj0:0≤j∧j<9223372036854775808:=by rw[←hj];split<;>omega
  simp only[Option.bind_some]
  rw[u64_in j (by omega) (by omega),add_spec j 2 (by omega) (by omega) (by omega) (by omega)]
  simp only[Option.bind_some]
  rw[mul_spec _ _ (by omega) (by omega) (by omega) (by omega)]
  simp only[Option.bind_some]
  rw[add_spec _ 5 (by omega) (by omega) (by omega) (by omega)]
  simp only[Option.bind_some]
  rw[mul_spec _ _ (by omega) (by omega) (by omega) (by omega)]
  rfl
theorem sq_half (x n:Int)(h0:0≤n):(x*x%2305843009213693951) ^ (n/2).toNat%2305843009213693951=x ^ (2*(n.toNat/2))%2305843009213693951:=by
  rw[pow_emod,Int.pow_mul,show(n/2).toNat=n.toNat/2 by omega,show x ^ 2=x*x by grind]
theorem pow_l0 (d:Nat):∀(k:Nat)(x n out:Int),0≤x→x<2305843009213693951→0≤n→n<18446744073709551616→n<2 ^ d→0≤out→out<2305843009213693951→d<k→
    field_Pow.l0 k x n out=some (out*x ^ n.toNat%2305843009213693951):=by
  induction d with
  |zero=>
    intro k x n out x0 x1 n0 n1 nd o0 o1 hk
    obtain⟨k,rfl⟩:∃m,k=m+1:=⟨k-1,by omega⟩
    have hn:n=0:=by simp at nd;omega
    simp only[field_Pow.l0]
    rw[if_neg (by omega),hn]
    exact congrArg some (by simp;omega)
  |succ d ih=>
    intro k x n out x0 x1 n0 n1 nd o0 o1 hk
    obtain⟨k,rfl⟩:∃m,k=m+1:=⟨k-1,by omega⟩
    simp only[field_Pow.l0]
    by_cases hp:n>0
    · rw[if_pos hp,and_1 n n0 n1,mul_spec x x x0 (by omega) x0 (by omega),mul_spec out x o0 (by omega) x0 (by omega)]
      simp only[Option.bind_some]
      have hd:n/2<2 ^ d:=by rw[Int.pow_succ]at nd;omega
      split
      · rw[ih k _ (n/2) _ (by omega) (by omega) (by omega) (by omega) hd (by omega) (by omega) (by omega)]
        have e:n.toNat=2*(n.toNat/2)+1:=by omega
        refine congrArg some ?_
        rw[Int.mul_emod,sq_half x n n0,←Int.mul_emod]
        rw[Int.mul_emod,Int.emod_emod,←Int.mul_emod]
        conv=>rhs;rw[e,Int.pow_succ,Int.mul_comm _ x,←Int.mul_assoc]
      · rw[ih k _ (n/2) _ (by omega) (by omega) (by omega) (by omega) hd o0 o1 (by omega)]
        have e:n.toNat=2*(n.toNat/2):=by omega
        refine congrArg some ?_
        rw[Int.mul_emod,sq_half x n n0,←Int.mul_emod]
        conv=>rhs;rw[e]
    · have hn:n=0:=by omega
      rw[if_neg hp,hn]
      exact congrArg some (by simp;omega)
theorem pow_spec (k:Nat)(a n:Int)(h0:0≤a)(h1:a<18446744073709551616)(g0:0≤n)(g1:n<18446744073709551616)(hk:65≤k):
    field_Pow.f k a n=some (a ^ n.toNat%2305843009213693951):=by
  unfold field_Pow.f
  rw[of_spec a h0 h1]
  simp only[Option.bind_some]
  rw[pow_l0 64 k _ n 1 (by omega) (by omega) g0 g1 (by omega) (by omega) (by omega) (by omega),Int.one_mul,pow_emod]
theorem sum_step (s:ByteArray)(a n i x j j':Int)(k:Nat)(hj:j'=j+1)(hs:s.size≤140737488351232)(i0:0≤i)(i1:i≤s.size)(j0:0≤j)(j1:j<4)(x0:0≤x)(x1:x<72057594037927936):
    hash_Sum.l1 (k+1) s a n i x j=hash_Sum.l1 k s a n i (x*256+bt s (i+j)) j':=by
  subst hj
  have hb:=bt_range s (i+j)
  conv=>lhs;unfold hash_Sum.l1
  rw[if_pos j1,i64_in (i+j) (by omega) (by omega),i64_in (j+1) (by omega) (by omega),u64_in (x*256) (by omega) (by omega),u64_in (bt s (i+j)) (by omega) (by omega)]
  by_cases h:i+j<(s.size:Int)
  · rw[if_pos h,if_pos (by omega),or_8 (x*256) _ (by omega) (by omega) (by omega) (by omega) (by omega)]
  · rw[if_neg h,bt_out s (i+j) (by omega),Int.add_zero]
theorem sum_word (s:ByteArray)(a n i:Int)(k:Nat)(hs:s.size≤140737488351232)(i0:0≤i)(i1:i≤s.size):
    hash_Sum.l1 (k+4) s a n i 0 0=hash_Sum.l1 k s a n i (wordAt s i) 4:=by
  have h0:=bt_range s i
  have h1:=bt_range s (i+1)
  have h2:=bt_range s (i+2)
  rw[sum_step s a n i 0 0 1 (k+3) (by omega) hs i0 i1 (by omega) (by omega) (by omega) (by omega),Int.add_zero,Int.zero_mul,Int.zero_add,
    sum_step s a n i _ 1 2 (k+2) (by omega) hs i0 i1 (by omega) (by omega) (by omega) (by omega),
    sum_step s a n i _ 2 3 (k+1) (by omega) hs i0 i1 (by omega) (by omega) (by omega) (by omega),
    sum_step s a n i _ 3 4 k (by omega) hs i0 i1 (by omega) (by omega) (by omega) (by omega)]
  rfl
theorem sum_l0 (s:ByteArray)(a:Int)(hs:s.size≤140737488351232)(a0:0≤a)(a1:a<18446744073709551616):∀(m k:Nat)(n i:Int),0≤i→(s.size:Int)≤i+4*m→i<(s.size:Int)+4→(0<m→i+4*m<(s.size:Int)+4)→
    0≤n→n<18446744073709551616→6*m+66≤k→
    hash_Sum.l0 k s a n i=some ((roll s a m n i*a) ^ 17%2305843009213693951):=by
  intro m
  induction m with
  |zero=>
    intro k n i i0 i1 i2 i3 n0 n1 hk
    obtain⟨k,rfl⟩:∃m,k=m+1:=⟨k-1,by omega⟩
    unfold hash_Sum.l0
    rw[if_neg (by omega),mul_spec n a n0 n1 a0 a1]
    simp only[Option.bind_some]
    rw[pow_spec k _ 17 (by omega) (by omega) (by omega) (by omega) (by omega),show(17:Int).toNat=17 from rfl,pow_emod]
    rfl
  |succ m ih=>
    intro k n i i0 i1 i2 i3 n0 n1 hk
    obtain⟨k,rfl⟩:∃m,k=m+1:=⟨k-1,by omega⟩
    obtain⟨k,rfl⟩:∃m,k=m+4:=⟨k-4,by omega⟩
    have hw:=wordAt_range s i
    have i4:i<(s.size:Int):=by omega
    unfold hash_Sum.l0
    rw[if_pos i4,sum_word s a n i k hs i0 (by omega)]
    obtain⟨k,rfl⟩:∃m,k=m+1:=⟨k-1,by omega⟩
    unfold hash_Sum.l1
    rw[if_neg (by omega),mul_spec n a n0 n1 a0 a1,u64_in _ (by omega) (by omega)]
    simp only[Option.bind_some]
    rw[add_spec _ _ (by omega) (by omega) (by omega) (by omega),i64_in (i+4) (by omega) (by omega)]
    simp only[Option.bind_some]
    rw[ih k _ (i+4) (by omega) (by omega) (by omega) (by omega) (by omega) (by omega) (by omega)]
    simp only[roll]
    have e:(n*a%2305843009213693951+(wordAt s i+1))%2305843009213693951=(n*a+wordAt s i+1)%2305843009213693951:=by omega
    rw[e]
theorem sum_spec (k:Nat)(seed:Int)(s:ByteArray)(hs:s.size≤140737488351232)(h0:0≤seed)(h1:seed<18446744073709551616)(hk:6*words s+66≤k):
    hash_Sum.f k seed s=some (hsum seed s):=by
  unfold hash_Sum.f
  rw[add_spec seed 2 h0 h1 (by omega) (by omega),u64_in _ (by omega) (by omega)]
  simp only[Option.bind_some]
  have hw:words s=(s.size+3)/4:=rfl
  exact sum_l0 s _ hs (by omega) (by omega) (words s) k s.size 0 (by omega) (by omega) (by omega) (by omega) (by omega) (by omega) hk
theorem cell_spec (k:Nat)(seed:Int)(key:ByteArray)(n:Int)(hs:key.size≤140737488351232)(h0:0≤seed)(h1:seed<18446744073709551616)(hn:n<9223372036854775808)(hk:6*words key+66≤k):
    hash_Cell.f k seed key n=some (hcell seed key n):=by
  unfold hash_Cell.f hcell
  by_cases a:n<1
  · rw[if_pos a,if_pos a]
  · rw[if_neg a,if_neg a,sum_spec k seed key hs h0 h1 hk]
    simp only[Option.bind_some]
    have r:=hsum_range seed key
    have r1:=Int.emod_nonneg (hsum seed key) (b:=n) (by omega)
    have r2:=Int.emod_lt_of_pos (hsum seed key) (b:=n) (by omega)
    rw[u64_in n (by omega) (by omega),if_neg (by omega),Int.tmod_eq_emod_of_nonneg r.1,i64_in _ (by omega) (by omega)]
theorem clone_nums (l:List Int)(h:l.length<17592186044416):slices_Clone_int_int.f l=some l:=by
  unfold slices_Clone_int_int.f
  simp only[Option.bind_some,List.length_nil,List.nil_append]
  rw[if_pos (by omega)]
theorem getD_set (l:List (List Int))(i j:Nat)(v:List Int)(h:i<l.length):(l.set i v).getD j []=if i=j then v else l.getD j []:=by
  by_cases e:i=j
  · subst e
    rw[if_pos rfl,List.getD_eq_getElem?_getD,List.getElem?_set_self h]
    rfl
  · rw[if_neg e,List.getD_eq_getElem?_getD,List.getElem?_set_ne e,←List.getD_eq_getElem?_getD]
theorem clone_l0 (s most:Int)(rows:List (List Int))(hl:rows.length≤7)(hr:∀r∈rows,r.length≤256):∀(d k i:Nat)(cur:List (List Int)),rows.length-i=d→i≤rows.length→cur.length=rows.length→(∀j,j<i→cur.getD j []=rows.getD j [])→d<k→
    least_clone.l0 k cur rows rows.length i s most rows=some (s,most,rows):=by
  intro d
  induction d with
  |zero=>
    intro k i cur h0 hi hc hj hk
    obtain⟨k,rfl⟩:∃m,k=m+1:=⟨k-1,by omega⟩
    simp only[least_clone.l0]
    rw[if_neg (by omega),ext_rows cur rows hc (fun j h=>hj j (by omega))]
  |succ d ih=>
    intro k i cur h0 hi hc hj hk
    obtain⟨k,rfl⟩:∃m,k=m+1:=⟨k-1,by omega⟩
    have g:i<rows.length:=by omega
    have e:rd_L9 rows (i:Int)=rows.getD i []:=rfl
    have hm:=hr _ (getD_row rows i g)
    simp only[least_clone.l0]
    rw[if_pos (by omega),if_pos (by omega),if_pos (by omega),e,clone_nums _ (by omega)]
    simp only[Option.bind_some]
    rw[if_pos (by omega),i64_in ((i:Int)+1) (by omega) (by omega),show(i:Int)+1=((i+1:Nat):Int)by omega]
    refine ih k (i+1) _ (by omega) (by omega) (by rw[List.length_set];exact hc) (fun j hj2=>?_) (by omega)
    show(cur.set i _).getD j []=_
    rw[getD_set cur i j _ (by omega)]
    by_cases e':i=j
    · rw[if_pos e',e']
    · rw[if_neg e'];exact hj j (by omega)
theorem clone_spec (k:Nat)(s most:Int)(rows:List (List Int))(hl:rows.length≤7)(hr:∀r∈rows,r.length≤256)(hk:10≤k):least_clone.f k s most rows=some (s,most,rows):=by
  unfold least_clone.f
  rw[if_pos (by omega),if_pos (by omega)]
  exact clone_l0 s most rows hl hr rows.length k 0 _ (by omega) (by omega) (by simp) (fun j h=>by omega) (by omega)
theorem addf_l0 (s most n:Int)(key:ByteArray)(rows:List (List Int))(hs0:0≤s)(hs1:s<18446744073709551616)(h:rightL most rows)(hn:0≤n)(hn2:n≤1099511627776)(hkey:key.size≤1000):∀(d k i:Nat)(cur:List (List Int)),rows.length-i=d→i≤rows.length→cur.length=rows.length→(∀j,j<i→cur.getD j []=freshRow s most key n j (rows.getD j []))→(∀j,i≤j→cur.getD j []=rows.getD j [])→d+2000≤k→
    least_Add.l0 k key n cur rows.length i s most=some (s,most,addRows s most key n rows,0):=by
  have hw:=words_le key 250 (by omega)
  intro d
  induction d with
  |zero=>
    intro k i cur h0 hi hc hj hj2 hk
    obtain⟨k,rfl⟩:∃m,k=m+1:=⟨k-1,by omega⟩
    simp only[least_Add.l0]
    rw[if_neg (by omega),ext_rows cur (addRows s most key n rows) (by rw[addRows_length];exact hc) (fun j h=>by rw[hj j (by omega),addRows_get s most key n rows j (by omega)])]
  |succ d ih=>
    intro k i cur h0 hi hc hj hj2 hk
    obtain⟨k,rfl⟩:∃m,k=m+1:=⟨k-1,by omega⟩
    have g:i<rows.length:=by omega
    have h7:=h.2.2.2.1
    have e:rd_L9 cur (i:Int)=rows.getD i []:=hj2 i (Nat.le_refl _)
    have hr:=hrow_range s i
    have ho:=h.2.2.2.2 _ (getD_row rows i g)
    have hce:=hcell_range (hrow s i) key (rows.getD i []).length (by have:=ho.1;omega)
    have hlen:=ho.2.1
    simp only[least_Add.l0]
    rw[if_pos (by omega),if_pos (by omega),row_spec s i hs0 hs1 (by omega)]
    simp only[Option.bind_some]
    rw[e,cell_spec k _ key _ (by omega) hr.1 (by omega) (by omega) (by omega)]
    simp only[Option.bind_some]
    rw[if_pos hce.1,if_pos hce.2]
    have hv:rd (rows.getD i []) (hcell (hrow s i) key (rows.getD i []).length)=(rows.getD i []).getD (cellAt s key i (rows.getD i [])).toNat 0:=rfl
    have hvr:=ho.2.2.2 _ (getD_num (rows.getD i []) (cellAt s key i (rows.getD i [])).toNat (by unfold cellAt;omega))
    have hm:=h.2.1
    rw[hv,i64_in _ (by omega) (by omega),i64_in ((i:Int)+1) (by omega) (by omega),show(i:Int)+1=((i+1:Nat):Int)by omega]
    refine ih k (i+1) _ (by omega) (by omega) (by rw[List.length_set];exact hc) (fun j hj3=>?_) (fun j hj3=>?_) (by omega)
    · show(cur.set i (freshRow s most key n i (rows.getD i []))).getD j []=_
      rw[getD_set cur i j _ (by omega)]
      by_cases e':i=j
      · rw[if_pos e',e']
      · rw[if_neg e'];exact hj j (by omega)
    · show(cur.set i _).getD j []=_
      rw[getD_set cur i j _ (by omega),if_neg (by omega)]
      exact hj2 j (by omega)
theorem addf_spec (k:Nat)(s most n:Int)(key:ByteArray)(rows:List (List Int))(hs0:0≤s)(hs1:s<18446744073709551616)(hkey:key.size≤1000)(hk:2100≤k):
    least_Add.f k s most rows key n=some (if rightL most rows∧0≤n∧n≤1099511627776 then(s,most,addRows s most key n rows,0)else(0,0,[],1)):=by
  obtain⟨k,rfl⟩:∃m,k=m+1:=⟨k-1,by omega⟩
  unfold least_Add.f
  rw[right_spec _ s most rows (by omega)]
  simp only[Option.bind_some]
  by_cases r:rightL most rows
  · rw[if_pos (decide_eq_true r)]
    by_cases c1:n<0
    · rw[if_pos c1,if_neg (fun o=>by have:=o.2.1;omega)];rfl
    · rw[if_neg c1]
      by_cases c2:n>1099511627776
      · rw[decide_eq_true c2,if_neg (fun o=>by have:=o.2.2;omega)];rfl
      · rw[decide_eq_false c2,if_pos ⟨r,by omega,by omega⟩]
        simp only[least_Add.j0]
        rw[if_neg (by decide),clone_spec k s most rows r.2.2.2.1 (fun x hx=>(r.2.2.2.2 x hx).2.1) (by omega)]
        simp only[Option.bind_some]
        have h7:=r.2.2.2.1
        exact addf_l0 s most n key rows hs0 hs1 r (by omega) (by omega) hkey rows.length k 0 rows (by omega) (by omega) rfl (fun j h=>by omega) (fun j h=>rfl) (by omega)
  · rw[if_neg (by rw[decide_eq_false r];decide),if_neg (fun o=>r o.1)];rfl
theorem getf_l0 (s most:Int)(key:ByteArray)(rows:List (List Int))(hs0:0≤s)(hs1:s<18446744073709551616)(h:rightL most rows)(hkey:key.size≤1000):∀(d k i:Nat)(m:Int),rows.length-i=d→i≤rows.length→d+2000≤k→
    least_Get.l0 k key m rows rows.length i s most rows=some (downTo (valAt s key rows) d i m,decide (downTo (valAt s key rows) d i m<most)):=by
  have hw:=words_le key 250 (by omega)
  intro d
  induction d with
  |zero=>
    intro k i m h0 hi hk
    obtain⟨k,rfl⟩:∃m,k=m+1:=⟨k-1,by omega⟩
    simp only[least_Get.l0]
    rw[if_neg (by omega)]
    rfl
  |succ d ih=>
    intro k i m h0 hi hk
    obtain⟨k,rfl⟩:∃m,k=m+1:=⟨k-1,by omega⟩
    have g:i<rows.length:=by omega
    have h7:=h.2.2.2.1
    have e:rd_L9 rows (i:Int)=rows.getD i []:=rfl
    have hr:=hrow_range s i
    have ho:=h.2.2.2.2 _ (getD_row rows i g)
    have hce:=hcell_range (hrow s i) key (rows.getD i []).length (by have:=ho.1;omega)
    have hlen:=ho.2.1
    simp only[least_Get.l0]
    rw[if_pos (by omega),if_pos (by omega),if_pos (by omega),row_spec s i hs0 hs1 (by omega)]
    simp only[Option.bind_some]
    rw[e,cell_spec k _ key _ (by omega) hr.1 (by omega) (by omega) (by omega)]
    simp only[Option.bind_some]
    rw[if_pos hce.1,if_pos hce.2,i64_in ((i:Int)+1) (by omega) (by omega),show(i:Int)+1=((i+1:Nat):Int)by omega]
    exact ih k (i+1) _ (by omega) (by omega) (by omega)
theorem getf_spec (k:Nat)(s most:Int)(key:ByteArray)(rows:List (List Int))(hs0:0≤s)(hs1:s<18446744073709551616)(hkey:key.size≤1000)(hk:2100≤k):
    least_Get.f k s most rows key=some (if rightL most rows then(getL s most key rows,decide (getL s most key rows<most))else(0,false)):=by
  unfold least_Get.f
  rw[right_spec _ s most rows (by omega)]
  simp only[Option.bind_some]
  by_cases r:rightL most rows
  · rw[if_pos (decide_eq_true r),if_pos r]
    have h7:=r.2.2.2.1
    exact getf_l0 s most key rows hs0 hs1 r hkey rows.length k 0 most (by omega) (by omega) (by omega)
  · rw[if_neg (by rw[decide_eq_false r];decide),if_neg r]
def numB (most x:Int):Bool:=decide (0≤x∧x≤most)
theorem rright_l1 (s most:Int)(rows:List (List Int))(i:Nat)(g:i<rows.length)(h7:rows.length≤7)(hlen:rows[i].length≤256)(K:Nat)(b:Bool)(hb:∀k,K≤k→rillmeterref11_Right.l0 k ((i+1:Nat):Int) s most rows=some b):∀(d k j:Nat),rows[i].length-j=d→j≤rows[i].length→K+d+1≤k→
    rillmeterref11_Right.l1 k i rows[i].length j s most rows=some ((rows[i].drop j).all (numB most) && b):=by
  have e:rd_L9 rows (i:Int)=rows[i]:=by
    show rows.getD i []=rows[i]
    simp[List.getD_eq_getElem?_getD,g]
  intro d
  induction d with
  |zero=>
    intro k j h0 hi hk
    obtain⟨k,rfl⟩:∃m,k=m+1:=⟨k-1,by omega⟩
    simp only[rillmeterref11_Right.l1]
    rw[if_neg (by omega),List.drop_of_length_le (by omega),i64_in ((i:Int)+1) (by omega) (by omega),show(i:Int)+1=((i+1:Nat):Int)by omega,hb k (by omega)]
    rfl
  |succ d ih=>
    intro k j h0 hi hk
    obtain⟨k,rfl⟩:∃m,k=m+1:=⟨k-1,by omega⟩
    have gj:j<rows[i].length:=by omega
    rw[List.drop_eq_getElem_cons gj,List.all_cons]
    simp only[rillmeterref11_Right.l1]
    rw[if_pos (by omega),if_pos (by omega),if_pos (by omega),if_pos (by omega),e,if_pos (by omega),rd_eq _ j gj,i64_in ((j:Int)+1) (by omega) (by omega),show(j:Int)+1=((j+1:Nat):Int)by omega]
    by_cases c1:rows[i][j]<0
    · rw[if_pos c1,numB,decide_eq_false (fun o=>by have:=o.1;omega)];rfl
    · rw[if_neg c1]
      by_cases c2:rows[i][j]>most
      · rw[if_pos c2,numB,decide_eq_false (fun o=>by have:=o.2;omega)];rfl
      · rw[if_neg c2,ih k (j+1) (by omega) (by omega) (by omega),numB,decide_eq_true ⟨by omega,by omega⟩,Bool.true_and]
theorem rright_l0 (s most:Int)(rows:List (List Int))(h1:1≤rows.length)(h7:rows.length≤7):∀(d k i:Nat),rows.length-i=d→i≤rows.length→d*260+1≤k→
    rillmeterref11_Right.l0 k i s most rows=some ((rows.drop i).all (rowB most rows)):=by
  intro d
  induction d with
  |zero=>
    intro k i h0 hi hk
    obtain⟨k,rfl⟩:∃m,k=m+1:=⟨k-1,by omega⟩
    simp only[rillmeterref11_Right.l0]
    rw[if_neg (by omega),List.drop_of_length_le (by omega)]
    rfl
  |succ d ih=>
    intro k i h0 hi hk
    obtain⟨k,rfl⟩:∃m,k=m+2:=⟨k-2,by omega⟩
    have g:i<rows.length:=by omega
    have e:rd_L9 rows (i:Int)=rows[i]:=by
      show rows.getD i []=rows[i]
      simp[List.getD_eq_getElem?_getD,g]
    have e0:((rd_L9 rows 0).length:Int)=(colsOf rows:Int):=rfl
    rw[List.drop_eq_getElem_cons g,List.all_cons]
    simp only[rillmeterref11_Right.l0,rillmeterref11_Right.j2]
    rw[if_pos (by omega),if_pos (by omega),e,e0]
    by_cases c1:(rows[i].length:Int)=0
    · rw[if_pos c1,if_pos trivial,rowB,decide_eq_false (fun o=>by have:=o.1;omega)];rfl
    · rw[if_neg c1]
      by_cases c2:(rows[i].length:Int)>256
      · rw[if_pos c2,if_pos trivial,rowB,decide_eq_false (fun o=>by have:=o.2.1;omega)];rfl
      · rw[if_neg c2,if_pos (by omega)]
        by_cases c3:(rows[i].length:Int)=(colsOf rows:Int)
        · have c3b:((rows[i].length:Int) != (colsOf rows:Int))=false:=by simp[c3]
          rw[c3b,if_neg (by decide)]
          have hx:∀k',d*260+1≤k'→rillmeterref11_Right.l0 k' ((i+1:Nat):Int) s most rows=some ((rows.drop (i+1)).all (rowB most rows)):=fun k' hk'=>ih k' (i+1) (by omega) (by omega) hk'
          have hle:rows[i].length≤256:=by omega
          have hfu:d*260+1+rows[i].length+1≤k:=by omega
          have h:=rright_l1 s most rows i g h7 hle (d*260+1) _ hx rows[i].length k 0 rfl (Nat.zero_le _) hfu
          have ee:rowB most rows rows[i]=(rows[i].drop 0).all (numB most):=by
            rw[List.drop_zero,Bool.eq_iff_iff,List.all_eq_true]
            unfold rowB numB
            rw[decide_eq_true_iff]
            unfold rowOk
            exact⟨fun h x hx=>decide_eq_true (h.2.2.2 x hx),fun h=>⟨by omega,by omega,by omega,fun x hx=>of_decide_eq_true (h x hx)⟩⟩
          rw[ee]
          exact h
        · have c3b:((rows[i].length:Int) != (colsOf rows:Int))=true:=by simpa using c3
          rw[c3b,if_pos rfl,rowB,decide_eq_false (fun o=>by have:=o.2.2.1;omega)];rfl
theorem rright_spec (k:Nat)(s most:Int)(rows:List (List Int))(hk:2000≤k):rillmeterref11_Right.f k s most rows=some (decide (rightL most rows)):=by
  obtain⟨k,rfl⟩:∃m,k=m+1:=⟨k-1,by omega⟩
  unfold rillmeterref11_Right.f
  by_cases c1:most<1
  · rw[if_pos c1,decide_eq_false (fun o=>by have:=o.1;omega)];rfl
  · rw[if_neg c1]
    by_cases c2:most>1099511627776
    · rw[if_pos c2,decide_eq_false (fun o=>by have:=o.2.1;omega)];rfl
    · rw[if_neg c2]
      by_cases c3:(rows.length:Int)=0
      · rw[if_pos c3,decide_eq_false (fun o=>by have:=o.2.2.1;omega)];rfl
      · rw[if_neg c3]
        by_cases c4:(rows.length:Int)>7
        · rw[decide_eq_true c4,decide_eq_false (fun o=>by have:=o.2.2.2.1;omega)];rfl
        · rw[decide_eq_false c4]
          simp only[rillmeterref11_Right.j0]
          rw[if_neg (by decide)]
          have h:=rright_l0 s most rows (by omega) (by omega) rows.length k 0 (by omega) (by omega) (by omega)
          rw[List.drop_zero,all_rows most rows (by omega) (by omega) (by omega) (by omega)]at h
          exact h
theorem rmul_l0 (d:Nat):∀(k:Nat)(x n out:Int),0≤x→x<2305843009213693951→0≤n→n<2305843009213693951→n<2 ^ d→0≤out→out<2305843009213693951→d<k→
    rillmeterref01_Mul.l0 k x n out=some ((out+x*n)%2305843009213693951):=by
  induction d with
  |zero=>
    intro k x n out x0 x1 n0 n1 nd o0 o1 hk
    obtain⟨k,rfl⟩:∃m,k=m+1:=⟨k-1,by omega⟩
    have hn:n=0:=by simp at nd;omega
    simp only[rillmeterref01_Mul.l0]
    rw[if_neg (by omega),hn]
    exact congrArg some (by simp;omega)
  |succ d ih=>
    intro k x n out x0 x1 n0 n1 nd o0 o1 hk
    obtain⟨k,rfl⟩:∃m,k=m+1:=⟨k-1,by omega⟩
    simp only[rillmeterref01_Mul.l0]
    by_cases hp:n>0
    · have hd:n/2<2 ^ d:=by rw[Int.pow_succ]at nd;omega
      rw[if_pos hp,Int.tmod_eq_emod_of_nonneg n0,Int.tdiv_eq_ediv_of_nonneg n0,u64_in (x+x) (by omega) (by omega),u64_in (n/2) (by omega) (by omega),
        u64_in (out+x) (by omega) (by omega),Int.tmod_eq_emod_of_nonneg (by omega),Int.tmod_eq_emod_of_nonneg (by omega)]
      split
      · rw[ih k _ (n/2) _ (by omega) (by omega) (by omega) (by omega) hd (by omega) (by omega) (by omega)]
        have e:n=2*(n/2)+1:=by omega
        refine congrArg some ?_
        generalize n/2=m at *
        subst e
        rw[Int.add_emod,Int.emod_emod,Int.mul_emod,Int.emod_emod,←Int.mul_emod,←Int.add_emod]
        exact congrArg (·%_) (by grind)
      · rw[ih k _ (n/2) _ (by omega) (by omega) (by omega) (by omega) hd o0 o1 (by omega)]
        have e:n=2*(n/2):=by omega
        refine congrArg some ?_
        generalize n/2=m at *
        subst e
        rw[Int.add_emod,Int.mul_emod,Int.emod_emod,←Int.mul_emod,←Int.add_emod]
        exact congrArg (·%_) (by grind)
    · have hn:n=0:=by omega
      rw[if_neg hp,hn]
      exact congrArg some (by simp;omega)
theorem rmul_spec (k:Nat)(a b:Int)(h0:0≤a)(g0:0≤b)(hk:65≤k):
    rillmeterref01_Mul.f k a b=some (a*b%2305843009213693951):=by
  unfold rillmeterref01_Mul.f
  rw[Int.tmod_eq_emod_of_nonneg h0,Int.tmod_eq_emod_of_nonneg g0]
  rw[rmul_l0 61 k _ _ 0 (by omega) (by omega) (by omega) (by omega) (by omega) (by omega) (by omega) (by omega),Int.zero_add,←Int.mul_emod]
theorem radd_spec (a b:Int)(h0:0≤a)(g0:0≤b):rillmeterref01_Add.f a b=some ((a+b)%2305843009213693951):=by
  unfold rillmeterref01_Add.f
  rw[Int.tmod_eq_emod_of_nonneg h0,Int.tmod_eq_emod_of_nonneg g0,u64_in _ (by omega) (by omega),Int.tmod_eq_emod_of_nonneg (by omega)]
  exact congrArg some (by omega)
theorem rpow_rec (d:Nat):∀(k:Nat)(a n:Int),0≤a→a<18446744073709551616→0≤n→n<18446744073709551616→n<2 ^ d→66+d≤k→
    rillmeterref01_Pow.f k a n=some (a ^ n.toNat%2305843009213693951):=by
  induction d with
  |zero=>
    intro k a n x0 x1 n0 n1 nd hk
    obtain⟨k,rfl⟩:∃m,k=m+1:=⟨k-1,by omega⟩
    have hn:n=0:=by simp at nd;omega
    simp only[rillmeterref01_Pow.f]
    rw[if_pos hn,hn]
    exact congrArg some (by simp)
  |succ d ih=>
    intro k a n x0 x1 n0 n1 nd hk
    obtain⟨k,rfl⟩:∃m,k=m+1:=⟨k-1,by omega⟩
    simp only[rillmeterref01_Pow.f]
    by_cases hp:n=0
    · rw[if_pos hp,hp]
      exact congrArg some (by simp)
    · have hd:n/2<2 ^ d:=by rw[Int.pow_succ]at nd;omega
      rw[if_neg hp,Int.tmod_eq_emod_of_nonneg n0,Int.tdiv_eq_ediv_of_nonneg n0,u64_in (n/2) (by omega) (by omega)]
      rw[ih k a (n/2) x0 x1 (by omega) (by omega) hd (by omega)]
      simp only[Option.bind_some]
      rw[rmul_spec k _ _ (by omega) (by omega) (by omega)]
      simp only[Option.bind_some]
      have e2:a ^ (n/2).toNat%2305843009213693951*(a ^ (n/2).toNat%2305843009213693951)%2305843009213693951=a ^ (2*(n.toNat/2))%2305843009213693951:=by
        rw[←Int.mul_emod,←Int.pow_add,show(n/2).toNat+(n/2).toNat=2*(n.toNat/2)by omega]
      rw[e2]
      split
      · rw[rmul_spec k _ _ (by omega) x0 (by omega)]
        have e:n.toNat=2*(n.toNat/2)+1:=by omega
        refine congrArg some ?_
        rw[Int.mul_emod,Int.emod_emod,←Int.mul_emod]
        conv=>rhs;rw[e,Int.pow_succ]
      · have e:n.toNat=2*(n.toNat/2):=by omega
        refine congrArg some ?_
        conv=>rhs;rw[e]
theorem rpow_spec (k:Nat)(a n:Int)(h0:0≤a)(h1:a<18446744073709551616)(g0:0≤n)(g1:n<18446744073709551616)(hk:130≤k):
    rillmeterref01_Pow.f k a n=some (a ^ n.toNat%2305843009213693951):=
  rpow_rec 64 k a n h0 h1 g0 g1 (by omega) (by omega)
theorem rrow_j0 (k:Nat)(seed i:Int)(h0:0≤seed)(hi0:0≤i)(hi:i<9223372036854775808)(hk:132≤k):rillmeterref02_Row.j0 k seed i=some (hrow seed i):=by
  obtain⟨k,rfl⟩:∃m,k=m+1:=⟨k-1,by omega⟩
  simp only[rillmeterref02_Row.j0]
  unfold hrow hmid
  rw[if_neg (by omega),u64_in i (by omega) (by omega),radd_spec seed 3 h0 (by omega),radd_spec i 2 hi0 (by omega)]
  simp only[Option.bind_some]
  rw[rmul_spec k _ _ (by omega) (by omega) (by omega)]
  simp only[Option.bind_some]
  rw[radd_spec _ 5 (by omega) (by omega)]
  simp only[Option.bind_some]
  rw[rpow_spec k _ 2 (by omega) (by omega) (by omega) (by omega) (by omega),show(2:Int).toNat=2 from rfl]
  simp only[Option.bind_some]
  rw[show∀x:Int,x ^ 2=x*x from fun x=>by rw[Int.pow_succ,Int.pow_succ,Int.pow_zero,Int.one_mul]]
theorem rrow_spec (k:Nat)(seed i:Int)(h0:0≤seed)(hi:i<9223372036854775808)(hk:132≤k):rillmeterref02_Row.f k seed i=some (hrow seed i):=by
  unfold rillmeterref02_Row.f
  by_cases a:i<0
  · rw[if_pos a,rrow_j0 k seed 0 h0 (by omega) (by omega) hk]
    unfold hrow hmid
    rw[if_pos a,if_neg (by omega)]
  · rw[if_neg a,rrow_j0 k seed i h0 (by omega) hi hk]
theorem rof_spec (a:Int)(h0:0≤a):rillmeterref01_Of.f a=some (a%2305843009213693951):=by
  unfold rillmeterref01_Of.f
  rw[Int.tmod_eq_emod_of_nonneg h0]
theorem strOf_nought:strOfNums [0]=(⟨#[0]⟩:ByteArray):=by rfl
theorem rwords_l1 (s:ByteArray)(hs:s.size≤1000100)(h4:s.size%4=0):∀(m k j:Nat)(l:List Int),j+m=words s→l.length=j→m<k→
    rillmeterref02_words.l1 k s l (4*j)=some (l++(List.range' j m).map (fun(i:Nat)=>wordAt s (4*(i:Int)))):=by
  intro m
  induction m with
  |zero=>
    intro k j l h0 hl hk
    obtain⟨k,rfl⟩:∃m,k=m+1:=⟨k-1,by omega⟩
    unfold words at h0
    simp only[rillmeterref02_words.l1]
    rw[if_neg (by omega)]
    simp
  |succ m ih=>
    intro k j l h0 hl hk
    obtain⟨k,rfl⟩:∃m,k=m+1:=⟨k-1,by omega⟩
    have hw:words s=(s.size+3)/4:=rfl
    have b0:=bt_range s (4*j)
    have b1:=bt_range s (4*j+1)
    have b2:=bt_range s (4*j+2)
    have b3:=bt_range s (4*j+3)
    simp only[rillmeterref02_words.l1]
    rw[i64_in (4*(j:Int)+1) (by omega) (by omega),i64_in (4*(j:Int)+2) (by omega) (by omega),i64_in (4*(j:Int)+3) (by omega) (by omega),i64_in (4*(j:Int)+4) (by omega) (by omega)]
    rw[if_pos (by omega),if_pos (by omega),if_pos (by omega),if_pos (by omega),if_pos (by omega),if_pos (by omega),if_pos (by omega),if_pos (by omega),if_pos (by omega)]
    rw[u64_in (bt s (4*j)) (by omega) (by omega),u64_in (bt s (4*j+1)) (by omega) (by omega),u64_in (bt s (4*j+2)) (by omega) (by omega),u64_in (bt s (4*j+3)) (by omega) (by omega),
      u64_in (bt s (4*j)*16777216) (by omega) (by omega),u64_in (bt s (4*j+1)*65536) (by omega) (by omega),u64_in (bt s (4*j+2)*256) (by omega) (by omega),
      u64_in (bt s (4*j)*16777216+bt s (4*j+1)*65536) (by omega) (by omega),u64_in (_+bt s (4*j+2)*256) (by omega) (by omega),u64_in (_+bt s (4*j+3)) (by omega) (by omega)]
    rw[show 4*(j:Int)+4=4*((j+1:Nat):Int)by omega,ih k (j+1) _ (by omega) (by simp[hl]) (by omega)]
    rw[List.range'_succ,List.map_cons,List.append_assoc]
    have e:bt s (4*j)*16777216+bt s (4*j+1)*65536+bt s (4*j+2)*256+bt s (4*j+3)=wordAt s (4*j):=by unfold wordAt;omega
    rw[e]
    rfl
theorem words_push (s:ByteArray)(h:s.size%4≠0):words (s++(⟨#[0]⟩:ByteArray))=words s:=by
  have hsz:(s++(⟨#[0]⟩:ByteArray)).size=s.size+1:=by rw[ByteArray.size_append];rfl
  unfold words
  omega
theorem rwords_l0:∀(d k:Nat)(s:ByteArray),s.size+d≤1000050→(4-s.size%4)%4=d→d≤3→words s+d+2≤k→
    rillmeterref02_words.l0 k s=some ((List.range' 0 (words s)).map (fun(i:Nat)=>wordAt s (4*(i:Int)))):=by
  intro d
  induction d with
  |zero=>
    intro k s hs hd _ hk
    obtain⟨k,rfl⟩:∃m,k=m+1:=⟨k-1,by omega⟩
    simp only[rillmeterref02_words.l0]
    rw[if_pos (by omega)]
    have h:=rwords_l1 s (by omega) (by omega) (words s) k 0 [] (by omega) rfl (by omega)
    rw[show(4*((0:Nat):Int))=0 from rfl]at h
    rw[h];simp
  |succ d ih=>
    intro k s hs hd h3 hk
    obtain⟨k,rfl⟩:∃m,k=m+1:=⟨k-1,by omega⟩
    have hsz:(s++(⟨#[0]⟩:ByteArray)).size=s.size+1:=by rw[ByteArray.size_append];rfl
    have h1:(⟨#[0]⟩:ByteArray).size=1:=rfl
    simp only[rillmeterref02_words.l0]
    rw[if_neg (by omega)]
    simp only[Option.bind_some,strOf_nought]
    rw[h1,if_pos (by omega)]
    by_cases hd0:d=0
    · subst hd0
      rw[ih k (s++(⟨#[0]⟩:ByteArray)) (by omega) (by omega) (by omega) (by rw[words_push s (by omega)];omega),words_push s (by omega)]
      simp only[wordAt_push]
    · rw[ih k (s++(⟨#[0]⟩:ByteArray)) (by omega) (by omega) (by omega) (by rw[words_push s (by omega)];omega),words_push s (by omega)]
      simp only[wordAt_push]
theorem rwords_spec (k:Nat)(s:ByteArray)(hs:s.size≤1000000)(hk:words s+5≤k):
    rillmeterref02_words.f k s=some ((List.range' 0 (words s)).map (fun(i:Nat)=>wordAt s (4*(i:Int)))):=
  rwords_l0 ((4-s.size%4)%4) k s (by omega) rfl (by omega) (by omega)
theorem rsum_l0 (s:ByteArray)(a:Int)(a0:0≤a)(a1:a<18446744073709551616)(hW:words s≤1000000):∀(m k j:Nat)(n:Int),j+m=words s→0≤n→n<2305843009213693951→m+131≤k→
    rillmeterref02_Sum.l0 k a n ((List.range' 0 (words s)).map (fun(i:Nat)=>wordAt s (4*(i:Int)))) j=some ((roll s a m n (4*j)*a) ^ 17%2305843009213693951):=by
  intro m
  induction m with
  |zero=>
    intro k j n hj n0 n1 hk
    obtain⟨k,rfl⟩:∃m,k=m+1:=⟨k-1,by omega⟩
    simp only[rillmeterref02_Sum.l0]
    rw[if_neg (by simp;omega),rmul_spec k a n a0 n0 (by omega)]
    simp only[Option.bind_some]
    rw[rpow_spec k _ 17 (by omega) (by omega) (by omega) (by omega) (by omega),show(17:Int).toNat=17 from rfl,pow_emod,Int.mul_comm a n]
    rfl
  |succ m ih=>
    intro k j n hj n0 n1 hk
    obtain⟨k,rfl⟩:∃m,k=m+1:=⟨k-1,by omega⟩
    have hw:=wordAt_range s (4*j)
    have e:rd ((List.range' 0 (words s)).map (fun(i:Nat)=>wordAt s (4*(i:Int)))) j=wordAt s (4*j):=by
      simp[rd,show j<words s by omega]
    simp only[rillmeterref02_Sum.l0]
    rw[if_pos (by simp;omega),rmul_spec k a n a0 n0 (by omega),e]
    simp only[Option.bind_some]
    rw[if_pos (by omega),radd_spec _ 1 hw.1 (by omega)]
    simp only[Option.bind_some]
    rw[radd_spec _ _ (by omega) (by omega),i64_in ((j:Int)+1) (by omega) (by omega)]
    simp only[Option.bind_some]
    rw[show(j:Int)+1=((j+1:Nat):Int)by omega,ih k (j+1) _ (by omega) (by omega) (by omega) (by omega)]
    simp only[roll]
    rw[show(4*((j+1:Nat):Int))=4*(j:Int)+4 by omega,Int.mul_comm a n]
    have e2:(n*a%2305843009213693951+(wordAt s (4*j)+1)%2305843009213693951)%2305843009213693951=(n*a+wordAt s (4*j)+1)%2305843009213693951:=by omega
    rw[e2]
theorem rsum_spec (k:Nat)(seed:Int)(s:ByteArray)(hs:s.size≤1000000)(h0:0≤seed)(hk:words s+135≤k):
    rillmeterref02_Sum.f k seed s=some (hsum seed s):=by
  unfold rillmeterref02_Sum.f hsum
  have hw:words s=(s.size+3)/4:=rfl
  rw[radd_spec seed 2 h0 (by omega),u64_in _ (by omega) (by omega),rof_spec _ (by omega),rwords_spec k s hs (by omega)]
  simp only[Option.bind_some]
  have h:=rsum_l0 s ((seed+2)%2305843009213693951) (by omega) (by omega) (by omega) (words s) k 0 ((s.size:Int)%2305843009213693951) (by omega) (by omega) (by omega) (by omega)
  rw[show((0:Nat):Int)=0 from rfl,show(4*(0:Int))=0 from rfl,show(s.size:Int)%2305843009213693951=s.size by omega]at h
  rw[show(s.size:Int)%2305843009213693951=s.size by omega]
  exact h
theorem rcell_spec (k:Nat)(seed:Int)(key:ByteArray)(n:Int)(hs:key.size≤1000000)(h0:0≤seed)(hn:n<9223372036854775808)(hk:words key+135≤k):
    rillmeterref02_Cell.f k seed key n=some (hcell seed key n):=by
  unfold rillmeterref02_Cell.f hcell
  by_cases a:n<1
  · rw[if_pos a,if_pos a]
  · rw[if_neg a,if_neg a,rsum_spec k seed key hs h0 hk]
    simp only[Option.bind_some]
    have r:=hsum_range seed key
    have r1:=Int.emod_nonneg (hsum seed key) (b:=n) (by omega)
    have r2:=Int.emod_lt_of_pos (hsum seed key) (b:=n) (by omega)
    rw[u64_in n (by omega) (by omega),if_neg (by omega),Int.tmod_eq_emod_of_nonneg r.1,i64_in _ (by omega) (by omega)]
theorem rkey_spec (k:Nat)(s:Int)(key:ByteArray)(i:Nat)(r:List Int)(hs0:0≤s)(hi:i<1000)(hr:r.length≤256)(hkey:key.size≤1000)(hk:500≤k):rillmeterref11_Cell.f k s key i r.length=some (cellAt s key i r):=by
  have hw:=words_le key 250 (by omega)
  have hh:=hrow_range s i
  unfold rillmeterref11_Cell.f
  rw[rrow_spec k s i hs0 (by omega) (by omega)]
  simp only[Option.bind_some]
  rw[rcell_spec k _ key _ (by omega) hh.1 (by omega) (by omega)]
  rfl
theorem rgetf_l0 (s most:Int)(key:ByteArray)(rows:List (List Int))(hs0:0≤s)(h:rightL most rows)(hkey:key.size≤1000):∀(d k i:Nat)(m:Int),rows.length-i=d→i≤rows.length→d+600≤k→
    rillmeterref11_Get.l0 k key m i s most rows=some (downTo (valAt s key rows) d i m):=by
  intro d
  induction d with
  |zero=>
    intro k i m h0 hi hk
    obtain⟨k,rfl⟩:∃m,k=m+1:=⟨k-1,by omega⟩
    simp only[rillmeterref11_Get.l0]
    rw[if_neg (by omega)]
    rfl
  |succ d ih=>
    intro k i m h0 hi hk
    obtain⟨k,rfl⟩:∃m,k=m+1:=⟨k-1,by omega⟩
    have g:i<rows.length:=by omega
    have h7:=h.2.2.2.1
    have e:rd_L9 rows (i:Int)=rows.getD i []:=rfl
    have ho:=h.2.2.2.2 _ (getD_row rows i g)
    have hce:=hcell_range (hrow s i) key (rows.getD i []).length (by have:=ho.1;omega)
    have hlen:=ho.2.1
    have hv:rd (rows.getD i []) (cellAt s key i (rows.getD i []))=valAt s key rows i:=rfl
    have hc:0≤cellAt s key i (rows.getD i [])∧cellAt s key i (rows.getD i [])<((rows.getD i []).length:Int):=hce
    simp only[rillmeterref11_Get.l0]
    rw[if_pos (by omega),if_pos (by omega),e,rkey_spec k s key i _ hs0 (by omega) hlen hkey (by omega)]
    simp only[Option.bind_some]
    rw[if_pos hc.1,if_pos hc.2,hv,i64_in ((i:Int)+1) (by omega) (by omega),show(i:Int)+1=((i+1:Nat):Int)by omega,ih k (i+1) _ (by omega) (by omega) (by omega),ih k (i+1) _ (by omega) (by omega) (by omega)]
    simp only[downTo,mn]
    by_cases c:valAt s key rows i<m
    · rw[if_pos c,if_pos c]
    · rw[if_neg c,if_neg c]
theorem rgetf_spec (k:Nat)(s most:Int)(key:ByteArray)(rows:List (List Int))(hs0:0≤s)(h:rightL most rows)(hkey:key.size≤1000)(hk:700≤k):rillmeterref11_Get.f k s most rows key=some (getL s most key rows):=by
  have h7:=h.2.2.2.1
  exact rgetf_l0 s most key rows hs0 h hkey rows.length k 0 most (by omega) (by omega) (by omega)
theorem take_next {α:Type}(d:α)(l:List α)(j:Nat)(h:j<l.length):l.take (j+1)=l.take j++[l.getD j d]:=by
  rw[List.take_add_one,List.getD_eq_getElem?_getD,List.getElem?_eq_getElem h]
  rfl
theorem raddf_l1 (s most n:Int)(key:ByteArray)(rows acc:List (List Int))(hs0:0≤s)(h:rightL most rows)(hn:0≤n)(hn2:n≤1099511627776)(hacc:acc.length≤1000)(i:Nat)(g:i<rows.length)(K:Nat)(b:Int × Int × List (List Int))(hb:∀k,K≤k→rillmeterref11_Add.l0 k key n (acc++[freshRow s most key n i (rows.getD i [])]) ((i+1:Nat):Int) s most rows=some b):∀(d k j:Nat),(rows.getD i []).length-j=d→j≤(rows.getD i []).length→K+d+1≤k→
    rillmeterref11_Add.l1 k key n acc i ((freshRow s most key n i (rows.getD i [])).take j) (cellAt s key i (rows.getD i [])) j s most rows=some b:=by
  have h7:=h.2.2.2.1
  have hm:=h.2.1
  have e:rd_L9 rows (i:Int)=rows.getD i []:=rfl
  have ho:=h.2.2.2.2 _ (getD_row rows i g)
  have hce:=hcell_range (hrow s i) key (rows.getD i []).length (by have:=ho.1;omega)
  have hlen:=ho.2.1
  have hc:0≤cellAt s key i (rows.getD i [])∧cellAt s key i (rows.getD i [])<((rows.getD i []).length:Int):=hce
  have hl:=freshRow_length s most key n i (rows.getD i [])
  intro d
  induction d with
  |zero=>
    intro k j h0 hi hk
    obtain⟨k,rfl⟩:∃m,k=m+1:=⟨k-1,by omega⟩
    simp only[rillmeterref11_Add.l1]
    rw[if_pos (by omega),if_pos (by omega),e,if_neg (by omega),if_pos (by omega),List.take_of_length_le (by omega),i64_in ((i:Int)+1) (by omega) (by omega),show(i:Int)+1=((i+1:Nat):Int)by omega,hb k (by omega)]
  |succ d ih=>
    intro k j h0 hi hk
    obtain⟨k,rfl⟩:∃m,k=m+1:=⟨k-1,by omega⟩
    have gj:j<(rows.getD i []).length:=by omega
    have hv:=ho.2.2.2 _ (getD_num (rows.getD i []) j gj)
    have ev:rd (rows.getD i []) (j:Int)=(rows.getD i []).getD j 0:=rfl
    have hnext:=ih k (j+1) (by omega) (by omega) (by omega)
    have htl:((freshRow s most key n i (rows.getD i [])).take j).length<17592186044416:=by rw[List.length_take];omega
    simp only[rillmeterref11_Add.l1]
    rw[if_pos (by omega),if_pos (by omega),e,if_pos (by omega),if_pos (by omega),ev,i64_in ((j:Int)+1) (by omega) (by omega),show(j:Int)+1=((j+1:Nat):Int)by omega,i64_in _ (by omega) (by omega)]
    have ht:(freshRow s most key n i (rows.getD i [])).take (j+1)=(freshRow s most key n i (rows.getD i [])).take j++[(freshRow s most key n i (rows.getD i [])).getD j 0]:=by
      exact take_next 0 _ j (by omega)
    rw[ht]at hnext
    by_cases c:(j:Int)=cellAt s key i (rows.getD i [])
    · have hg:(freshRow s most key n i (rows.getD i [])).getD j 0=mn ((rows.getD i []).getD j 0+n) most:=by
        have cj:(cellAt s key i (rows.getD i [])).toNat=j:=by omega
        unfold freshRow
        rw[cj,List.getD_eq_getElem?_getD,List.getElem?_set_self gj]
        rfl
      have hcap:rillmeterref11_capped.f ((rows.getD i []).getD j 0+n) most=some (mn ((rows.getD i []).getD j 0+n) most):=by
        unfold rillmeterref11_capped.f mn
        by_cases c2:(rows.getD i []).getD j 0+n>most
        · rw[if_pos c2,if_pos (by omega)]
        · rw[if_neg c2,if_neg (by omega)]
      rw[if_pos c,hcap]
      simp only[Option.bind_some]
      rw[if_pos htl,←hg]
      exact hnext
    · have hg:(freshRow s most key n i (rows.getD i [])).getD j 0=(rows.getD i []).getD j 0:=by
        unfold freshRow
        rw[List.getD_eq_getElem?_getD,List.getElem?_set_ne (by omega),←List.getD_eq_getElem?_getD]
      rw[if_neg c,if_pos htl,←hg]
      exact hnext
theorem raddf_l0 (s most n:Int)(key:ByteArray)(rows:List (List Int))(hs0:0≤s)(h:rightL most rows)(hn:0≤n)(hn2:n≤1099511627776)(hkey:key.size≤1000):∀(d k i:Nat),rows.length-i=d→i≤rows.length→d*260+600≤k→
    rillmeterref11_Add.l0 k key n ((addRows s most key n rows).take i) i s most rows=some (s,most,addRows s most key n rows):=by
  have h7:=h.2.2.2.1
  have hal:=addRows_length s most key n rows
  intro d
  induction d with
  |zero=>
    intro k i h0 hi hk
    obtain⟨k,rfl⟩:∃m,k=m+1:=⟨k-1,by omega⟩
    simp only[rillmeterref11_Add.l0]
    rw[if_neg (by omega),List.take_of_length_le (by omega)]
  |succ d ih=>
    intro k i h0 hi hk
    obtain⟨k,rfl⟩:∃m,k=m+1:=⟨k-1,by omega⟩
    have g:i<rows.length:=by omega
    have ho:=h.2.2.2.2 _ (getD_row rows i g)
    have hlen:=ho.2.1
    have e:rd_L9 rows (i:Int)=rows.getD i []:=rfl
    simp only[rillmeterref11_Add.l0]
    rw[if_pos (by omega),if_pos (by omega),e,rkey_spec k s key i _ hs0 (by omega) hlen hkey (by omega)]
    simp only[Option.bind_some]
    have ht:(addRows s most key n rows).take (i+1)=(addRows s most key n rows).take i++[freshRow s most key n i (rows.getD i [])]:=by
      rw[←addRows_get s most key n rows i g]
      exact take_next [] _ i (by omega)
    have hx:=raddf_l1 s most n key rows ((addRows s most key n rows).take i) hs0 h hn hn2 (by rw[List.length_take];omega) i g (d*260+600) _ (fun k hk=>by rw[←ht];exact ih k (i+1) (by omega) (by omega) hk) (rows.getD i []).length k 0 (by omega) (by omega) (by omega)
    rw[List.take_zero]at hx
    exact hx
theorem raddf_spec (k:Nat)(s most n:Int)(key:ByteArray)(rows:List (List Int))(hs0:0≤s)(h:rightL most rows)(hn:0≤n)(hn2:n≤1099511627776)(hkey:key.size≤1000)(hk:2500≤k):rillmeterref11_Add.f k s most rows key n=some (s,most,addRows s most key n rows):=by
  have h7:=h.2.2.2.1
  have hx:=raddf_l0 s most n key rows hs0 h hn hn2 hkey rows.length k 0 (by omega) (by omega) (by omega)
  rw[List.take_zero]at hx
  exact hx
theorem same_l1 (rows:List (List Int))(i:Nat)(g:i<rows.length)(h7:rows.length≤7)(hlen:rows[i].length≤256)(K:Nat)(hb:∀k,K≤k→rillmeterref11_SameRows.l0 k rows rows ((i+1:Nat):Int)=some true):∀(d k j:Nat),rows[i].length-j=d→j≤rows[i].length→K+d+1≤k→
    rillmeterref11_SameRows.l1 k rows rows i j=some true:=by
  have e:rd_L9 rows (i:Int)=rows[i]:=by
    show rows.getD i []=rows[i]
    simp[List.getD_eq_getElem?_getD,g]
  intro d
  induction d with
  |zero=>
    intro k j h0 hi hk
    obtain⟨k,rfl⟩:∃m,k=m+1:=⟨k-1,by omega⟩
    simp only[rillmeterref11_SameRows.l1]
    rw[if_pos (by omega),if_pos (by omega),e,if_neg (by omega),i64_in ((i:Int)+1) (by omega) (by omega),show(i:Int)+1=((i+1:Nat):Int)by omega,hb k (by omega)]
  |succ d ih=>
    intro k j h0 hi hk
    obtain⟨k,rfl⟩:∃m,k=m+1:=⟨k-1,by omega⟩
    simp only[rillmeterref11_SameRows.l1]
    rw[if_pos (by omega),if_pos (by omega),e,if_pos (by omega),if_pos (by omega),if_pos (by omega),if_pos (by omega),if_pos trivial,i64_in ((j:Int)+1) (by omega) (by omega),show(j:Int)+1=((j+1:Nat):Int)by omega]
    exact ih k (j+1) (by omega) (by omega) (by omega)
theorem same_l0 (rows:List (List Int))(h7:rows.length≤7)(hlen:∀r∈rows,r.length≤256):∀(d k i:Nat),rows.length-i=d→i≤rows.length→d*260+1≤k→
    rillmeterref11_SameRows.l0 k rows rows i=some true:=by
  intro d
  induction d with
  |zero=>
    intro k i h0 hi hk
    obtain⟨k,rfl⟩:∃m,k=m+1:=⟨k-1,by omega⟩
    simp only[rillmeterref11_SameRows.l0]
    rw[if_neg (by omega)]
  |succ d ih=>
    intro k i h0 hi hk
    obtain⟨k,rfl⟩:∃m,k=m+1:=⟨k-1,by omega⟩
    have g:i<rows.length:=by omega
    have hl:=hlen _ (List.getElem_mem g)
    simp only[rillmeterref11_SameRows.l0]
    rw[if_pos (by omega),if_pos (by omega),if_pos (by omega),if_pos trivial]
    exact same_l1 rows i g h7 hl (d*260+1) (fun k hk=>ih k (i+1) (by omega) (by omega) hk) rows[i].length k 0 (by omega) (by omega) (by omega)
theorem same_spec (k:Nat)(rows:List (List Int))(h7:rows.length≤7)(hlen:∀r∈rows,r.length≤256)(hk:2000≤k):rillmeterref11_SameRows.f k rows rows=some true:=by
  unfold rillmeterref11_SameRows.f
  rw[if_pos rfl]
  exact same_l0 rows h7 hlen rows.length k 0 (by omega) (by omega) (by omega)
theorem equal_spec (k:Nat)(s most:Int)(rows:List (List Int))(h7:rows.length≤7)(hlen:∀r∈rows,r.length≤256)(hk:2000≤k):rillmeterref11_Equal.f k s most rows s most rows=some true:=by
  unfold rillmeterref11_Equal.f
  rw[if_pos rfl,if_pos rfl,same_spec k rows h7 hlen hk]
  rfl
theorem awake15:rillmeterlaw15_awake.f 400=some true:=by decide+kernel
theorem awake15_spec:Evt (fun k=>rillmeterlaw15_awake.f k) true:=⟨400,fun k hk=>at_rounds (g:=fun k=>rillmeterlaw15_awake.f k) rillmeterlaw15_awake.mono hk awake15⟩
theorem take56 (l:List S56)(i:Nat)(h:i<l.length):l.take (i+1)=l.take i++[rd_T56 l (i:Int)]∧rd_T56 l (i:Int)∈l:=by
  refine⟨?_,?_⟩
  · rw[List.take_add_one,List.getElem?_eq_getElem (by omega)]
    simp[rd_T56,List.getD_eq_getElem?_getD,h]
  · unfold rd_T56
    rw[Int.toNat_natCast,List.getD_eq_getElem?_getD,List.getElem?_eq_getElem h]
    exact List.getElem_mem _
theorem take76 (l:List S76)(i:Nat)(h:i<l.length):l.take (i+1)=l.take i++[rd_T76 l (i:Int)]∧rd_T76 l (i:Int)∈l:=by
  refine⟨?_,?_⟩
  · rw[List.take_add_one,List.getElem?_eq_getElem (by omega)]
    simp[rd_T76,List.getD_eq_getElem?_getD,h]
  · unfold rd_T76
    rw[Int.toNat_natCast,List.getD_eq_getElem?_getD,List.getElem?_eq_getElem h]
    exact List.getElem_mem _
theorem tl_inj {a b:ByteArray}:a.toList=b.toList↔a=b:=by
  rw[ByteArray.toList_eq,ByteArray.toList_eq]
  constructor
  · intro h
    apply ByteArray.ext
    exact Array.toList_inj.1 h
  · intro h;rw[h]
def keysE (l:List S76):List ByteArray:=l.map (·.f0)
theorem go_spec (key:ByteArray):∀(l:List S76)(i:Nat),(key∉keysE l∧elastic_find.go key l i= -1)∨∃j,j<l.length∧(rd_T76 l (j:Int)).f0=key∧elastic_find.go key l i=((i+j:Nat):Int)∧key∈keysE l:=by
  intro l
  induction l with
  |nil=>intro i;exact .inl ⟨by simp[keysE],rfl⟩
  |cons y l ih=>
    intro i
    rw[elastic_find.go]
    by_cases h:y.f0=key
    · rw[if_pos (tl_inj.2 h)]
      exact .inr ⟨0,by simp,h,by simp,by simp[keysE,h]⟩
    · rw[if_neg (fun g=>h (tl_inj.1 g))]
      rcases ih (i+1)with⟨h1,h2⟩|⟨j,h1,h2,h3,h4⟩
      · refine .inl ⟨?_,h2⟩
        simp only[keysE,List.map_cons,List.mem_cons,not_or]at h1 ⊢
        exact⟨fun g=>h g.symm,h1⟩
      · refine .inr ⟨j+1,by simp;omega,?_,?_,?_⟩
        · rw[←h2]
          unfold rd_T76
          simp[List.getD_eq_getElem?_getD]
        · rw[h3];omega
        · simp only[keysE,List.map_cons,List.mem_cons]at h4 ⊢
          exact .inr h4
theorem go_at:∀(l:List S76)(i j:Nat),(keysE l).Nodup→j<l.length→elastic_find.go (rd_T76 l (j:Int)).f0 l i=((i+j:Nat):Int):=by
  intro l
  induction l with
  |nil=>intro i j _ h;exact absurd h (Nat.not_lt_zero _)
  |cons y l ih=>
    intro i j hn hj
    have hn':y.f0∉keysE l∧(keysE l).Nodup:=by simpa[keysE]using hn
    cases j with
    |zero=>
      rw[elastic_find.go,if_pos (by rfl)];simp
    |succ j=>
      have e:rd_T76 (y::l) ((j+1:Nat):Int)=rd_T76 l (j:Int):=by unfold rd_T76;simp[List.getD_eq_getElem?_getD]
      have hj':j<l.length:=by simpa using hj
      have hm:(rd_T76 l (j:Int)).f0∈keysE l:=List.mem_map.2 ⟨_,(take76 l j hj').2,rfl⟩
      rw[e,elastic_find.go,if_neg (fun g=>hn'.1 (by rw[tl_inj.1 g];exact hm)),ih (i+1) j hn'.2 hj']
      congr 1;omega
def placeOf (s:Int)(n:Nat)(key:ByteArray):Nat:=(hcell (hrow s 0) key n).toNat
theorem place_lt (s:Int)(n:Nat)(key:ByteArray)(h:1≤n):placeOf s n key<n∧hcell (hrow s 0) key n=(placeOf s n key:Int):=by
  have:=hcell_range (hrow s 0) key n (by omega)
  unfold placeOf;omega
theorem lst_bucket (B:List S56)(h:B.length≤256):elastic_Bucket_32.f B=some B:=by
  simp only[elastic_Bucket_32.f,Option.bind_some]
  rw[if_pos (by simp;omega)];rfl
theorem lst_entry (l:List S76)(h:l.length≤256):elastic_Entry_29.f l=some l:=by
  simp only[elastic_Entry_29.f,Option.bind_some]
  rw[if_pos (by simp;omega)];rfl
theorem rd76 (l:List S76)(j:Nat)(h:j<l.length):l[j]? =some (rd_T76 l (j:Int)):=by
  rw[List.getElem?_eq_getElem h];simp[rd_T76,List.getD_eq_getElem?_getD,h]
theorem rd56 (l:List S56)(j:Nat)(h:j<l.length):l[j]? =some (rd_T56 l (j:Int)):=by
  rw[List.getElem?_eq_getElem h];simp[rd_T56,List.getD_eq_getElem?_getD,h]
theorem Evt.step5 {α:Type}{f g:Nat→Option α}{r:α}(h:Evt g r)(e:∀k,9≤k→f (k+1)=g k):Evt f r:=by
  obtain⟨n,h⟩:=h
  refine⟨n+10,fun k hk=>?_⟩
  obtain⟨k,rfl⟩:∃z,k=z+1:=⟨k-1,by omega⟩
  rw[e k (by omega)]
  exact h k (by omega)
def cmp2 (a b:Int):Int:=if a<b then -1 else if a>b then 1 else 0
def cmpI (a b:S68):Int:=if cmp2 b.f1 a.f1=0 then Lib.compareBytes a.f0.data.toList b.f0.data.toList else cmp2 b.f1 a.f1
theorem cmp2_spec (a b:Int):cmp_Compare_int.f a b=some (cmp2 a b):=by
  unfold cmp_Compare_int.f cmp_isNaN_int.f cmp2
  rw[bne_self_eq_false,bne_self_eq_false,Option.bind_some,Option.bind_some,if_neg (by decide),if_neg (by decide)]
  split
  · rfl
  · split<;>rfl
theorem or_spec (t u:Int):∀k,5≤k→cmp_Or_int.f k [t,u]=some (if t=0 then u else t):=by
  intro k hk
  obtain⟨k,rfl⟩:∃z,k=z+3:=⟨k-3,by omega⟩
  have hl:(([t,u]:List Int).length:Int)=2:=rfl
  have s0:∀k,cmp_Or_int.l0 (k+1) 0 [t,u] 2 0=(if t=0 then cmp_Or_int.l0 k 0 [t,u] 2 1 else some t):=fun k=>by
    simp only[cmp_Or_int.l0]
    rw[hl,if_pos (by decide),if_pos (by decide),if_pos (by decide),show rd [t,u] 0=t from rfl,i64_in (0+1) (by decide) (by decide)]
    rfl
  have s1:∀k,cmp_Or_int.l0 (k+1) 0 [t,u] 2 1=(if u=0 then cmp_Or_int.l0 k 0 [t,u] 2 2 else some u):=fun k=>by
    simp only[cmp_Or_int.l0]
    rw[hl,if_pos (by decide),if_pos (by decide),if_pos (by decide),show rd [t,u] 1=u from rfl,i64_in (1+1) (by decide) (by decide)]
    rfl
  have s2:∀k,cmp_Or_int.l0 (k+1) 0 [t,u] 2 2=some 0:=fun k=>by
    simp only[cmp_Or_int.l0]
    rw[if_neg (by decide)]
  show cmp_Or_int.l0 (k+2+1) 0 [t,u] 2 0=_
  rw[s0,s1,s2]
  by_cases c:t=0
  · rw[if_pos c,if_pos c]
    by_cases d:u=0
    · rw[if_pos d,d]
    · rw[if_neg d]
  · rw[if_neg c,if_neg c]
theorem cmp_spec (a b:S68):∀k,5≤k→elastic_List_1.f k a.f0 a.f1 b.f0 b.f1=some (cmpI a b):=by
  intro k hk
  unfold elastic_List_1.f strings_Compare.f
  rw[cmp2_spec,Option.bind_some,Option.bind_some,or_spec _ _ k hk]
  rfl
theorem rd68 (l:List S68)(i:Nat)(h:i<l.length):rd_T68 l (i:Int)=l[i]:=by
  unfold rd_T68
  rw[Int.toNat_natCast,List.getD_eq_getElem?_getD,List.getElem?_eq_getElem h]
  rfl
theorem swap_perm (x:List S68)(i j:Nat)(hi:i<x.length)(hj:j<x.length):((x.set i (rd_T68 x (j:Int))).set j (rd_T68 x (i:Int))).Perm x:=by
  rw[rd68 x i hi,rd68 x j hj]
  exact List.set_set_perm hi hj
theorem half (i j:Nat)(hi:i≤100000)(hj:j≤100000):wrap64 ((IntKind.u64.wrap (wrap64 ((i:Int)+(j:Int))))/2)=(((i+j)/2:Nat):Int):=by
  rw[i64_in ((i:Int)+j) (by omega) (by omega),u64_in ((i:Int)+j) (by omega) (by omega),i64_in _ (by omega) (by omega)]
  omega
def entsE (most:Int)(es:List S76):List S68:=(es.filter (fun e=>decide (most≤e.f1))).map (fun e=>⟨e.f0,e.f1⟩)
def items (most:Int):List S56→List S68
  |[]=>[]
  |b::t=>entsE most b.f0++items most t
theorem items_snoc (most:Int)(b:S56):∀B:List S56,items most (B++[b])=items most B++entsE most b.f0:=by
  intro B
  induction B with
  |nil=>show entsE most b.f0++[]=[]++entsE most b.f0;rw[List.append_nil];rfl
  |cons c t ih=>show entsE most c.f0++items most (t++[b])=(entsE most c.f0++items most t)++entsE most b.f0;rw[ih,List.append_assoc]
theorem entsE_snoc (most:Int)(e:S76)(es:List S76):entsE most (es++[e])=entsE most es++(if most≤e.f1 then [⟨e.f0,e.f1⟩]else []):=by
  unfold entsE
  rw[List.filter_append,List.map_append]
  by_cases c:most≤e.f1
  · rw[if_pos c,List.filter_cons_of_pos (by exact decide_eq_true c)];rfl
  · rw[if_neg c,List.filter_cons_of_neg (by simpa using c)];rfl
theorem entsE_len (most:Int)(es:List S76):(entsE most es).length≤es.length:=by
  unfold entsE
  rw[List.length_map]
  exact List.length_filter_le _ _
theorem items_len (most:Int)(m:Nat):∀B:List S56,(∀b∈B,b.f0.length≤m)→(items most B).length≤B.length*m:=by
  intro B
  induction B with
  |nil=>intro _;exact Nat.zero_le _
  |cons b t ih=>
    intro h
    have h1:=h b (List.mem_cons_self ..)
    have h2:=ih (fun z hz=>h z (List.mem_cons_of_mem _ hz))
    have h3:=entsE_len most b.f0
    show(entsE most b.f0++items most t).length≤(t.length+1)*m
    rw[List.length_append,Nat.add_mul]
    omega
theorem cb_neg:∀a b:List UInt8,Lib.compareBytes b a= -Lib.compareBytes a b
  |[],[]=>rfl
  |[],_::_=>rfl
  |_::_,[]=>rfl
  |x::a,y::b=>by
    simp only[Lib.compareBytes,UInt8.lt_iff_toNat_lt]
    by_cases c:x.toNat<y.toNat
    · rw[if_neg (by omega),if_pos c,if_pos c];rfl
    · by_cases d:y.toNat<x.toNat
      · rw[if_pos d,if_neg c,if_pos d]
      · rw[if_neg c,if_neg d,if_neg c,if_neg d];exact cb_neg a b
theorem cb_zero:∀a b:List UInt8,Lib.compareBytes a b=0→a=b
  |[],[],_=>rfl
  |[],_::_,h=>by simp[Lib.compareBytes]at h
  |_::_,[],h=>by simp[Lib.compareBytes]at h
  |x::a,y::b,h=>by
    simp only[Lib.compareBytes,UInt8.lt_iff_toNat_lt]at h
    by_cases c:x.toNat<y.toNat
    · rw[if_pos c]at h;omega
    · by_cases d:y.toNat<x.toNat
      · rw[if_neg c,if_pos d]at h;omega
      · rw[if_neg c,if_neg d]at h
        rw[cb_zero a b h,UInt8.toNat_inj.1 (show x.toNat=y.toNat by omega)]
theorem cb_le:∀a b c:List UInt8,Lib.compareBytes a b≤0→Lib.compareBytes b c≤0→Lib.compareBytes a c≤0
  |[],_,[],_,_=>by simp[Lib.compareBytes]
  |[],_,_::_,_,_=>by simp[Lib.compareBytes]
  |_::_,[],_,h,_=>by simp[Lib.compareBytes]at h
  |_::_,_::_,[],_,h=>by simp[Lib.compareBytes]at h
  |x::a,y::b,z::c,h1,h2=>by
    simp only[Lib.compareBytes,UInt8.lt_iff_toNat_lt]at h1 h2 ⊢
    by_cases p:x.toNat<z.toNat
    · rw[if_pos p];decide
    · rw[if_neg p]
      by_cases q1:x.toNat<y.toNat
      · rw[if_neg (by omega),if_pos (by omega)]at h2;omega
      · rw[if_neg q1]at h1
        by_cases q2:y.toNat<x.toNat
        · rw[if_pos q2]at h1;omega
        · rw[if_neg q2]at h1
          by_cases q3:y.toNat<z.toNat
          · omega
          · rw[if_neg q3]at h2
            by_cases q4:z.toNat<y.toNat
            · rw[if_pos q4]at h2;omega
            · rw[if_neg q4]at h2
              rw[if_neg (by omega)]
              exact cb_le a b c h1 h2
def Lo (x y:S68):Prop:=¬(cmpI y x<0)
theorem lo_iff (x y:S68):Lo x y↔y.f1≤x.f1∧(x.f1=y.f1→Lib.compareBytes x.f0.data.toList y.f0.data.toList≤0):=by
  unfold Lo cmpI cmp2
  by_cases c:x.f1<y.f1
  · rw[if_pos c,if_neg (by decide)]
    exact⟨fun h=>absurd (by decide) h,fun h=>by omega⟩
  · by_cases d:x.f1>y.f1
    · rw[if_neg c,if_pos d,if_neg (by decide)]
      exact⟨fun _=>⟨by omega,fun e=>by omega⟩,fun _=>by decide⟩
    · rw[if_neg c,if_neg d,if_pos rfl]
      have:=cb_neg x.f0.data.toList y.f0.data.toList
      exact⟨fun h=>⟨by omega,fun _=>by omega⟩,fun h=>by have:=h.2 (by omega);omega⟩
theorem lo_trans {x y z:S68}(h:Lo x y)(k:Lo y z):Lo x z:=by
  rw[lo_iff]at h k ⊢
  refine⟨by omega,fun e=>cb_le _ _ _ (h.2 (by omega)) (k.2 (by omega))⟩
theorem lo_total {x y:S68}(h:¬Lo x y):Lo y x:=by
  rw[lo_iff]at h ⊢
  refine⟨by
    by_cases c:y.f1≤x.f1
    · by_cases d:x.f1=y.f1
      · omega
      · exact absurd ⟨c,fun e=>absurd e d⟩ h
    · omega,fun e=>?_⟩
  have:=cb_neg x.f0.data.toList y.f0.data.toList
  have h:¬(Lib.compareBytes x.f0.data.toList y.f0.data.toList≤0):=fun g=>h ⟨by omega,fun _=>g⟩
  omega
theorem lo_refl (x:S68):Lo x x:=by
  by_cases c:Lo x x
  · exact c
  · exact lo_total c
theorem lo_anti {x y:S68}(h:Lo x y)(k:Lo y x):x=y:=by
  rw[lo_iff]at h k
  have:=cb_neg x.f0.data.toList y.f0.data.toList
  have e:=cb_zero _ _ (show Lib.compareBytes x.f0.data.toList y.f0.data.toList=0 by have:=h.2 (by omega);have:=k.2 (by omega);omega)
  obtain⟨a,b⟩:=x
  obtain⟨c,d⟩:=y
  have e2:b=d:=by have:=h.1;have:=k.1;simp only at *;omega
  have e3:a=c:=ByteArray.ext (Array.toList_inj.1 e)
  rw[e2,e3]
theorem lt_lo {x y:S68}(h:cmpI x y<0):Lo x y:=lo_total (fun k=>k h)
theorem lt_mono {a b a' b':S68}(h:cmpI a b<0)(ha:Lo a' a)(hb:Lo b b'):cmpI a' b'<0:=by
  by_cases c:cmpI a' b'<0
  · exact c
  · exact absurd (lo_trans (lo_trans hb c) ha) (fun k=>k h)
def rx (x:List S68)(p:Nat):S68:=rd_T68 x (p:Int)
def Srt (x:List S68)(a b:Nat):Prop:=∀p q,a≤p→p<q→q<b→Lo (rx x p) (rx x q)
def Ok (a b:Nat)(x x':List S68):Prop:=x'.Perm x∧(∀p,¬(a≤p∧p<b)→rx x' p=rx x p)∧∀p,a≤p→p<b→∃q,a≤q∧q<b∧rx x' p=rx x q
def Mp (f:Nat→Nat)(x x':List S68):Prop:=∀p,rx x' p=rx x (f p)
theorem Ok.refl (a b:Nat)(x:List S68):Ok a b x x:=⟨List.Perm.refl _,fun _ _=>rfl,fun p h k=>⟨p,h,k,rfl⟩⟩
theorem Ok.trans {a b:Nat}{x y z:List S68}(h:Ok a b x y)(k:Ok a b y z):Ok a b x z:=
  ⟨k.1.trans h.1,fun p hp=>(k.2.1 p hp).trans (h.2.1 p hp),fun p h1 h2=>by
    obtain⟨q,q1,q2,q3⟩:=k.2.2 p h1 h2
    obtain⟨r,r1,r2,r3⟩:=h.2.2 q q1 q2
    exact⟨r,r1,r2,q3.trans r3⟩⟩
theorem Ok.wide {a b a' b':Nat}{x y:List S68}(h:Ok a b x y)(ha:a'≤a)(hb:b≤b'):Ok a' b' x y:=
  ⟨h.1,fun p hp=>h.2.1 p (by omega),fun p h1 h2=>by
    by_cases c:a≤p∧p<b
    · obtain⟨q,q1,q2,q3⟩:=h.2.2 p c.1 c.2
      exact⟨q,by omega,by omega,q3⟩
    · exact⟨p,h1,h2,h.2.1 p c⟩⟩
theorem Ok.of {a b:Nat}{x x':List S68}{f:Nat→Nat}(hp:x'.Perm x)(hm:Mp f x x')(h1:∀p,¬(a≤p∧p<b)→f p=p)(h2:∀p,a≤p→p<b→a≤f p∧f p<b):Ok a b x x':=
  ⟨hp,fun p h=>by rw[hm p,h1 p h],fun p h k=>⟨f p,(h2 p h k).1,(h2 p h k).2,hm p⟩⟩
theorem Srt.out {a b c d:Nat}{x y:List S68}(h:Srt x c d)(k:Ok a b x y)(hd:d≤a∨b≤c):Srt y c d:=fun p q h1 h2 h3=>by
  rw[k.2.1 p (by omega),k.2.1 q (by omega)]
  exact h p q h1 h2 h3
theorem rx_swap (x:List S68)(i j:Nat)(hi:i<x.length)(hj:j<x.length):Mp (fun p=>if p=j then i else if p=i then j else p) x ((x.set i (rd_T68 x (j:Int))).set j (rd_T68 x (i:Int))):=by
  intro p
  show rd_T68 _ (p:Int)=rd_T68 x ((if p=j then i else if p=i then j else p:Nat):Int)
  simp only[rd_T68,Int.toNat_natCast,List.getD_eq_getElem?_getD]
  by_cases c:p=j
  · subst c
    rw[if_pos rfl,List.getElem?_set_self (by simpa using hj),Option.getD_some]
  · rw[if_neg c,List.getElem?_set_ne (fun e=>c e.symm)]
    by_cases d:p=i
    · subst d
      rw[if_pos rfl,List.getElem?_set_self hi,Option.getD_some]
    · rw[if_neg d,List.getElem?_set_ne (fun e=>d e.symm)]
theorem Mp.trans {f g:Nat→Nat}{x y z:List S68}(h:Mp f x y)(k:Mp g y z):Mp (fun p=>f (g p)) x z:=fun p=>(k p).trans (h (g p))
theorem Mp.eq {f g:Nat→Nat}{x y:List S68}(h:Mp f x y)(e:∀p,f p=g p):Mp g x y:=fun p=>by rw[h p,e p]
theorem Mp.id {f:Nat→Nat}(x:List S68)(e:∀p,f p=p):Mp f x x:=fun p=>by rw[e p]
theorem ins_l0 (a b:Nat):∀(d i:Nat)(x:List S68),x.length≤10000→b≤x.length→b≤i+d→a<i→i≤x.length→Srt x a i→∃x',Evt (fun k=>heavy_Item_76.l0 k x (a:Int) (b:Int) (i:Int)) x'∧Ok a (max b i) x x'∧Srt x' a b:=by
  intro d
  induction d with
  |zero=>
    intro i x hx hb hi ha hl hs
    refine⟨x,Evt.step (Evt.now (f:=fun _=>some _) (fun _=>rfl)) (fun k=>?_),Ok.refl _ _ _,fun p q h1 h2 h3=>hs p q h1 h2 (by omega)⟩
    simp only[heavy_Item_76.l0]
    rw[if_neg (by omega)]
  |succ d ih=>
    intro i x hx hb hi ha hl hs
    by_cases c:i<b
    · have inner:∀(e:Nat)(x:List S68),x.length≤10000→b≤x.length→a+e≤i→(∀p q,a≤p→p<q→q≤i→q≠a+e→Lo (rx x p) (rx x q))→∃x',Evt (fun k=>heavy_Item_76.l1 k x (a:Int) (b:Int) (i:Int) ((a+e:Nat):Int)) x'∧Ok a (max b i) x x'∧Srt x' a b:=by
        intro e
        induction e with
        |zero=>
          intro x hx hb hl hI
          obtain⟨x',h1,h2,h3⟩:=ih (i+1) x hx hb (by omega) (by omega) (by omega) (fun p q g1 g2 g3=>hI p q g1 g2 (by omega) (by omega))
          refine⟨x',Evt.step h1 (fun k=>?_),h2.wide (Nat.le_refl _) (by omega),h3⟩
          simp only[heavy_Item_76.l1]
          rw[if_neg (by omega),i64_in ((i:Int)+1) (by omega) (by omega),show(i:Int)+1=((i+1:Nat):Int)by omega]
        |succ e ihe=>
          intro x hx hb hl hI
          have op:∀k,9≤k→heavy_Item_76.l1 (k+1) x (a:Int) (b:Int) (i:Int) ((a+(e+1):Nat):Int)=(if cmpI (rd_T68 x ((a+(e+1):Nat):Int)) (rd_T68 x ((a+e:Nat):Int))<0 then heavy_Item_76.l1 k ((x.set (a+(e+1)) (rd_T68 x ((a+e:Nat):Int))).set (a+e) (rd_T68 x ((a+(e+1):Nat):Int))) (a:Int) (b:Int) (i:Int) ((a+e:Nat):Int)else heavy_Item_76.l0 k x (a:Int) (b:Int) ((i+1:Nat):Int)):=by
            intro k hk
            simp only[heavy_Item_76.l1]
            rw[i64_in (((a+(e+1):Nat):Int)-1) (by omega) (by omega),show((a+(e+1):Nat):Int)-1=((a+e:Nat):Int)by omega,if_pos (by omega),if_pos (by omega),if_pos (by omega),if_pos (by omega),if_pos (by omega),cmp_spec _ _ k (by omega),Option.bind_some,i64_in ((i:Int)+1) (by omega) (by omega),show(i:Int)+1=((i+1:Nat):Int)by omega,Int.toNat_natCast,Int.toNat_natCast]
          by_cases g:cmpI (rx x (a+(e+1))) (rx x (a+e))<0
          · have hm:=rx_swap x (a+(e+1)) (a+e) (by omega) (by omega)
            obtain⟨x',h1,h2,h3⟩:=ihe ((x.set (a+(e+1)) (rd_T68 x ((a+e:Nat):Int))).set (a+e) (rd_T68 x ((a+(e+1):Nat):Int))) (by simp only[List.length_set];exact hx) (by simp only[List.length_set];exact hb) (by omega) (fun p q g1 g2 g3 g4=>by
              rw[hm p,hm q]
              dsimp only
              by_cases u:q=a+(e+1)
              · rw[if_neg (c:=q=a+e) g4,if_pos u]
                by_cases v:p=a+e
                · rw[if_pos v];exact lt_lo g
                · rw[if_neg v,if_neg (c:=p=a+(e+1)) (by omega)];exact hI p (a+e) g1 (by omega) (by omega) (by omega)
              · rw[if_neg (c:=q=a+e) g4,if_neg u]
                by_cases v:p=a+e
                · rw[if_pos v];exact hI (a+(e+1)) q (by omega) (by omega) g3 (by omega)
                · rw[if_neg v]
                  by_cases w:p=a+(e+1)
                  · rw[if_pos w];exact hI (a+e) q (by omega) (by omega) g3 (by omega)
                  · rw[if_neg w];exact hI p q g1 g2 g3 (by omega))
            exact⟨x',Evt.step5 h1 (fun k hk=>(op k hk).trans (if_pos g)),(Ok.of (swap_perm x _ _ (by omega) (by omega)) hm (fun p hp=>by rw[if_neg (by omega),if_neg (by omega)]) (fun p h1 h2=>by
              by_cases u:p=a+e
              · rw[if_pos u];omega
              · rw[if_neg u]
                by_cases v:p=a+(e+1)
                · rw[if_pos v];omega
                · rw[if_neg v];omega)).trans h2,h3⟩
          · obtain⟨x',h1,h2,h3⟩:=ih (i+1) x hx hb (by omega) (by omega) (by omega) (fun p q g1 g2 g3=>by
              by_cases u:q=a+(e+1)
              · subst u
                by_cases v:p=a+e
                · subst v;exact g
                · exact lo_trans (hI p (a+e) g1 (by omega) (by omega) (by omega)) g
              · exact hI p q g1 g2 (by omega) u)
            exact⟨x',Evt.step5 h1 (fun k hk=>(op k hk).trans (if_neg g)),h2.wide (Nat.le_refl _) (by omega),h3⟩
      obtain⟨x',h1,h2,h3⟩:=inner (i-a) x hx hb (by omega) (fun p q g1 g2 g3 g4=>hs p q g1 g2 (by omega))
      refine⟨x',Evt.step h1 (fun k=>?_),h2,h3⟩
      simp only[heavy_Item_76.l0]
      rw[if_pos (by omega),show((a+(i-a):Nat):Int)=(i:Int)by omega]
    · refine⟨x,Evt.step (Evt.now (f:=fun _=>some _) (fun _=>rfl)) (fun k=>?_),Ok.refl _ _ _,fun p q h1 h2 h3=>hs p q h1 h2 (by omega)⟩
      simp only[heavy_Item_76.l0]
      rw[if_neg (by omega)]
theorem ins_spec (a b:Nat)(x:List S68)(hx:x.length≤10000)(hab:a≤b)(hb:b≤x.length):∃x',Evt (fun k=>heavy_Item_76.f k x (a:Int) (b:Int)) x'∧Ok a b x x'∧Srt x' a b:=by
  by_cases c:a+1≤b
  · obtain⟨x',h1,h2,h3⟩:=ins_l0 a b (b-a) (a+1) x hx hb (by omega) (by omega) (by omega) (fun p q g1 g2 g3=>by omega)
    refine⟨x',h1.eq (fun k=>?_),h2.wide (Nat.le_refl _) (by omega),h3⟩
    unfold heavy_Item_76.f
    rw[i64_in ((a:Int)+1) (by omega) (by omega)]
    rfl
  · refine⟨x,Evt.step (Evt.now (f:=fun _=>some _) (fun _=>rfl)) (fun k=>?_),Ok.refl _ _ _,fun p q g1 g2 g3=>by omega⟩
    simp only[heavy_Item_76.f,heavy_Item_76.l0]
    rw[i64_in ((a:Int)+1) (by omega) (by omega),if_neg (by omega)]
theorem swr_l0 (a b n:Nat)(hab:a+n≤b):∀(d i:Nat)(x:List S68),x.length≤10000→i+d=n→b+n≤x.length→∃x',Evt (fun k=>heavy_Item_86.l0 k x (a:Int) (b:Int) (n:Int) (i:Int)) x'∧x'.Perm x∧Mp (fun p=>if a+i≤p∧p<a+n then p-a+b else if b+i≤p∧p<b+n then p-b+a else p) x x':=by
  intro d
  induction d with
  |zero=>
    intro i x hx hi hb
    refine⟨x,Evt.step (Evt.now (f:=fun _=>some _) (fun _=>rfl)) (fun k=>?_),List.Perm.refl _,Mp.id x (fun p=>by rw[if_neg (by omega),if_neg (by omega)])⟩
    simp only[heavy_Item_86.l0]
    rw[if_neg (by omega)]
  |succ d ih=>
    intro i x hx hi hb
    obtain⟨x',h1,h2,h3⟩:=ih (i+1) ((x.set (a+i) (rd_T68 x ((b+i:Nat):Int))).set (b+i) (rd_T68 x ((a+i:Nat):Int))) (by simp only[List.length_set];exact hx) (by omega) (by simp only[List.length_set];exact hb)
    refine⟨x',Evt.step h1 (fun k=>?_),h2.trans (swap_perm x _ _ (by omega) (by omega)),((rx_swap x (a+i) (b+i) (by omega) (by omega)).trans h3).eq (fun p=>?_)⟩
    · simp only[heavy_Item_86.l0]
      rw[i64_in ((a:Int)+i) (by omega) (by omega),i64_in ((b:Int)+i) (by omega) (by omega),i64_in ((i:Int)+1) (by omega) (by omega),show(i:Int)+1=((i+1:Nat):Int)by omega,show(a:Int)+i=((a+i:Nat):Int)by omega,show(b:Int)+i=((b+i:Nat):Int)by omega,if_pos (by omega),if_pos (by omega),if_pos (by omega),if_pos (by omega),if_pos (by omega),Int.toNat_natCast,Int.toNat_natCast]
    · repeat' split
      all_goals omega
theorem swr_spec (a b n:Nat)(x:List S68)(hab:a+n≤b)(hx:x.length≤10000)(hb:b+n≤x.length):∃x',Evt (fun k=>heavy_Item_86.f k x (a:Int) (b:Int) (n:Int)) x'∧x'.Perm x∧Mp (fun p=>if a≤p∧p<a+n then p-a+b else if b≤p∧p<b+n then p-b+a else p) x x':=by
  obtain⟨x',h1,h2,h3⟩:=swr_l0 a b n hab n 0 x hx (by omega) hb
  exact⟨x',h1.eq (fun k=>rfl),h2,h3⟩
theorem rot_l0 (m:Nat):∀(N i j:Nat)(x:List S68),x.length≤10000→i+j≤N→1≤i→1≤j→i≤m→m+j≤x.length→∃x',Evt (fun k=>heavy_Item_85.l0 k x (m:Int) (i:Int) (j:Int)) x'∧x'.Perm x∧Mp (fun p=>if m-i≤p∧p<m-i+j then p+i else if m-i+j≤p∧p<m+j then p-j else p) x x':=by
  intro N
  induction N with
  |zero=>intro i j x _ h1 h2;omega
  |succ N ih=>
    intro i j x hx hN hi hj him hmj
    by_cases c:i=j
    · obtain⟨x',⟨m1,h1⟩,h2,h3⟩:=swr_spec (m-i) m i x (by omega) hx (by omega)
      refine⟨x',⟨m1+1,fun k hk=>?_⟩,h2,h3.eq (fun p=>?_)⟩
      · obtain⟨k,rfl⟩:∃z,k=z+1:=⟨k-1,by omega⟩
        have h1:=h1 k (by omega)
        simp only at h1
        simp only[heavy_Item_85.l0]
        rw[if_pos (by omega),i64_in ((m:Int)-i) (by omega) (by omega),show(m:Int)-i=((m-i:Nat):Int)by omega,h1,Option.bind_some]
      · repeat' split
        all_goals omega
    · by_cases c2:i>j
      · obtain⟨x1,⟨m1,h1⟩,h2,h2m⟩:=swr_spec (m-i) m j x (by omega) hx (by omega)
        have hl:=h2.length_eq
        obtain⟨x2,⟨m2,h3⟩,h4,h4m⟩:=ih (i-j) j x1 (by omega) (by omega) (by omega) hj (by omega) (by omega)
        refine⟨x2,⟨m1+m2+1,fun k hk=>?_⟩,h4.trans h2,(h2m.trans h4m).eq (fun p=>?_)⟩
        · obtain⟨k,rfl⟩:∃z,k=z+1:=⟨k-1,by omega⟩
          have h1:=h1 k (by omega)
          have h3:=h3 k (by omega)
          simp only at h1 h3
          simp only[heavy_Item_85.l0]
          rw[if_neg (by omega),if_pos (by omega),i64_in ((m:Int)-i) (by omega) (by omega),show(m:Int)-i=((m-i:Nat):Int)by omega,h1,Option.bind_some,i64_in ((i:Int)-j) (by omega) (by omega),show(i:Int)-j=((i-j:Nat):Int)by omega,h3]
        · repeat' split
          all_goals omega
      · obtain⟨x1,⟨m1,h1⟩,h2,h2m⟩:=swr_spec (m-i) (m+j-i) i x (by omega) hx (by omega)
        have hl:=h2.length_eq
        obtain⟨x2,⟨m2,h3⟩,h4,h4m⟩:=ih i (j-i) x1 (by omega) (by omega) hi (by omega) him (by omega)
        refine⟨x2,⟨m1+m2+1,fun k hk=>?_⟩,h4.trans h2,(h2m.trans h4m).eq (fun p=>?_)⟩
        · obtain⟨k,rfl⟩:∃z,k=z+1:=⟨k-1,by omega⟩
          have h1:=h1 k (by omega)
          have h3:=h3 k (by omega)
          simp only at h1 h3
          simp only[heavy_Item_85.l0]
          rw[if_neg (by omega),if_neg (by omega),i64_in ((m:Int)-i) (by omega) (by omega),show(m:Int)-i=((m-i:Nat):Int)by omega,i64_in ((m:Int)+j) (by omega) (by omega),i64_in ((m:Int)+j-i) (by omega) (by omega),show(m:Int)+j-i=((m+j-i:Nat):Int)by omega,h1,Option.bind_some,i64_in ((j:Int)-i) (by omega) (by omega),show(j:Int)-i=((j-i:Nat):Int)by omega,h3]
        · repeat' split
          all_goals omega
theorem rot_spec (a m b:Nat)(x:List S68)(hx:x.length≤10000)(h1:a<m)(h2:m<b)(h3:b≤x.length):∃x',Evt (fun k=>heavy_Item_85.f k x (a:Int) (m:Int) (b:Int)) x'∧x'.Perm x∧Mp (fun p=>if a≤p∧p<a+(b-m)then p+(m-a)else if a+(b-m)≤p∧p<b then p-(b-m)else p) x x':=by
  obtain⟨x',h4,h5,h6⟩:=rot_l0 m (m-a+(b-m)) (m-a) (b-m) x hx (by omega) (by omega) (by omega) (by omega) (by omega)
  refine⟨x',h4.eq (fun k=>?_),h5,h6.eq (fun p=>?_)⟩
  · unfold heavy_Item_85.f
    rw[i64_in ((m:Int)-a) (by omega) (by omega),i64_in ((b:Int)-m) (by omega) (by omega),show(m:Int)-a=((m-a:Nat):Int)by omega,show(b:Int)-m=((b-m:Nat):Int)by omega]
  · repeat' split
    all_goals omega
theorem sm_l1 (i:Nat):∀(d t:Nat)(x:List S68),x.length≤10000→i≤t+d+1→1≤i→i≤x.length→∃x',Evt (fun k=>heavy_Item_77.l1 k x (i:Int) (t:Int)) x'∧x'.Perm x∧Mp (fun p=>if t≤p∧p+1<i then p+1 else if p+1=i∧t≤p then t else p) x x':=by
  intro d
  induction d with
  |zero=>
    intro t x hx hi h1 h2
    refine⟨x,Evt.step (Evt.now (f:=fun _=>some _) (fun _=>rfl)) (fun k=>?_),List.Perm.refl _,Mp.id x (fun p=>by(repeat' split)<;>omega)⟩
    simp only[heavy_Item_77.l1]
    rw[i64_in ((i:Int)-1) (by omega) (by omega),if_neg (by omega)]
  |succ d ih=>
    intro t x hx hi h1 h2
    by_cases c:t+1<i
    · obtain⟨x',h3,h4,h5⟩:=ih (t+1) ((x.set t (rd_T68 x ((t+1:Nat):Int))).set (t+1) (rd_T68 x (t:Int))) (by simp only[List.length_set];exact hx) (by omega) h1 (by simp only[List.length_set];exact h2)
      refine⟨x',Evt.step h3 (fun k=>?_),h4.trans (swap_perm x _ _ (by omega) (by omega)),((rx_swap x t (t+1) (by omega) (by omega)).trans h5).eq (fun p=>?_)⟩
      · simp only[heavy_Item_77.l1]
        rw[i64_in ((i:Int)-1) (by omega) (by omega),i64_in ((t:Int)+1) (by omega) (by omega),show(t:Int)+1=((t+1:Nat):Int)by omega,if_pos (by omega),if_pos (by omega),if_pos (by omega),if_pos (by omega),if_pos (by omega),Int.toNat_natCast,Int.toNat_natCast]
      · repeat' split
        all_goals omega
    · refine⟨x,Evt.step (Evt.now (f:=fun _=>some _) (fun _=>rfl)) (fun k=>?_),List.Perm.refl _,Mp.id x (fun p=>by(repeat' split)<;>omega)⟩
      simp only[heavy_Item_77.l1]
      rw[i64_in ((i:Int)-1) (by omega) (by omega),if_neg (by omega)]
theorem sm_l3 (i:Nat):∀(d t:Nat)(x:List S68),x.length≤10000→t≤i+d→t<x.length→∃x',Evt (fun k=>heavy_Item_77.l3 k x (i:Int) (t:Int)) x'∧x'.Perm x∧Mp (fun p=>if i<p∧p≤t then p-1 else if p=i∧i≤t then t else p) x x':=by
  intro d
  induction d with
  |zero=>
    intro t x hx hi h1
    refine⟨x,Evt.step (Evt.now (f:=fun _=>some _) (fun _=>rfl)) (fun k=>?_),List.Perm.refl _,Mp.id x (fun p=>by(repeat' split)<;>omega)⟩
    simp only[heavy_Item_77.l3]
    rw[if_neg (by omega)]
  |succ d ih=>
    intro t x hx hi h1
    by_cases c:t>i
    · obtain⟨t,rfl⟩:∃z,t=z+1:=⟨t-1,by omega⟩
      obtain⟨x',h3,h4,h5⟩:=ih t ((x.set (t+1) (rd_T68 x (t:Int))).set t (rd_T68 x ((t+1:Nat):Int))) (by simp only[List.length_set];exact hx) (by omega) (by simp only[List.length_set];omega)
      refine⟨x',Evt.step h3 (fun k=>?_),h4.trans (swap_perm x _ _ (by omega) (by omega)),((rx_swap x (t+1) t (by omega) (by omega)).trans h5).eq (fun p=>?_)⟩
      · simp only[heavy_Item_77.l3]
        rw[i64_in (((t+1:Nat):Int)-1) (by omega) (by omega),show((t+1:Nat):Int)-1=(t:Int)by omega,if_pos (by omega),if_pos (by omega),if_pos (by omega),if_pos (by omega),if_pos (by omega),Int.toNat_natCast,Int.toNat_natCast]
      · repeat' split
        all_goals omega
    · refine⟨x,Evt.step (Evt.now (f:=fun _=>some _) (fun _=>rfl)) (fun k=>?_),List.Perm.refl _,Mp.id x (fun p=>by(repeat' split)<;>omega)⟩
      simp only[heavy_Item_77.l3]
      rw[if_neg (by omega)]
theorem sm_l0 (a b:Nat)(x:List S68)(hx:x.length≤10000)(hb:b≤x.length)(hab:a+1≤b)(hs:Srt x (a+1) b):∀(d i j:Nat),j≤i+d→i≤j→j≤b→a+1≤i→(∀p,a+1≤p→p<i→cmpI (rx x p) (rx x a)<0)→(∀p,j≤p→p<b→¬cmpI (rx x p) (rx x a)<0)→∃x',Evt (fun k=>heavy_Item_77.l0 k x (a:Int) (i:Int) (j:Int)) x'∧Ok a b x x'∧Srt x' a b:=by
  have out:∀i j:Nat,¬i<j→a+1≤i→i≤b→j≤i→(∀p,a+1≤p→p<i→cmpI (rx x p) (rx x a)<0)→(∀p,j≤p→p<b→¬cmpI (rx x p) (rx x a)<0)→∃x',Evt (fun k=>heavy_Item_77.l0 k x (a:Int) (i:Int) (j:Int)) x'∧Ok a b x x'∧Srt x' a b:=by
    intro i j c h1 h2 h0 g1 g2
    obtain⟨x',h3,h4,h5⟩:=sm_l1 i i a x hx (by omega) (by omega) (by omega)
    refine⟨x',Evt.step h3 (fun k=>?_),Ok.of h4 h5 (fun p hp=>by(repeat' split)<;>omega) (fun p q1 q2=>by(repeat' split)<;>omega),fun p q k1 k2 k3=>?_⟩
    · simp only[heavy_Item_77.l0]
      rw[if_neg (by omega)]
    · rw[h5 p,h5 q]
      dsimp only
      by_cases u:q+1<i
      · rw[if_pos ⟨by omega,by omega⟩,if_pos ⟨by omega,u⟩]
        exact hs (p+1) (q+1) (by omega) (by omega) (by omega)
      · by_cases v:q+1=i
        · rw[if_pos ⟨by omega,by omega⟩,if_neg (by omega),if_pos ⟨v,by omega⟩]
          exact lt_lo (g1 (p+1) (by omega) (by omega))
        · rw[if_neg (c:=a≤q∧q+1<i) (by omega),if_neg (c:=q+1=i∧a≤q) (by omega)]
          by_cases w:p+1<i
          · rw[if_pos ⟨k1,w⟩];exact hs (p+1) q (by omega) (by omega) k3
          · by_cases z:p+1=i
            · rw[if_neg (by omega),if_pos ⟨z,k1⟩];exact g2 q (by omega) k3
            · rw[if_neg (by omega),if_neg (by omega)];exact hs p q (by omega) k2 k3
  intro d
  induction d with
  |zero=>intro i j hd hij hj hi g1 g2;exact out i j (by omega) hi (by omega) (by omega) g1 g2
  |succ d ih=>
    intro i j hd hij hj hi g1 g2
    by_cases c:i<j
    · have op:∀k,9≤k→heavy_Item_77.l0 (k+1) x (a:Int) (i:Int) (j:Int)=(if cmpI (rd_T68 x (((i+j)/2:Nat):Int)) (rd_T68 x (a:Int))<0 then heavy_Item_77.l0 k x (a:Int) (((i+j)/2+1:Nat):Int) (j:Int)else heavy_Item_77.l0 k x (a:Int) (i:Int) (((i+j)/2:Nat):Int)):=by
        intro k hk
        simp only[heavy_Item_77.l0]
        rw[half i j (by omega) (by omega),i64_in ((((i+j)/2:Nat):Int)+1) (by omega) (by omega),show(((i+j)/2:Nat):Int)+1=(((i+j)/2+1:Nat):Int)by omega,if_pos (by omega),if_pos (by omega),if_pos (by omega),if_pos (by omega),if_pos (by omega),cmp_spec _ _ k (by omega),Option.bind_some]
      obtain⟨h,hh⟩:∃h,h=(i+j)/2:=⟨_,rfl⟩
      rw[←hh]at op
      by_cases g:cmpI (rx x h) (rx x a)<0
      · obtain⟨x',h1,h2,h3⟩:=ih (h+1) j (by omega) (by omega) hj (by omega) (fun p q1 q2=>by
          by_cases u:p=h
          · rw[u];exact g
          · exact lt_mono g (hs p h q1 (by omega) (by omega)) (lo_refl _)) g2
        exact⟨x',Evt.step5 h1 (fun k hk=>(op k hk).trans (if_pos g)),h2,h3⟩
      · obtain⟨x',h1,h2,h3⟩:=ih i h (by omega) (by omega) (by omega) hi g1 (fun p q1 q2=>by
          by_cases u:p=h
          · rw[u];exact g
          · exact fun k=>g (lt_mono k (hs h p (by omega) (by omega) q2) (lo_refl _)))
        exact⟨x',Evt.step5 h1 (fun k hk=>(op k hk).trans (if_neg g)),h2,h3⟩
    · exact out i j c hi (by omega) (by omega) g1 g2
theorem sm_l2 (a m:Nat)(x:List S68)(hx:x.length≤10000)(hm:m<x.length)(ham:a≤m)(hs:Srt x a m):∀(d i j:Nat),j≤i+d→i≤j→j≤m→a≤i→(∀p,a≤p→p<i→¬cmpI (rx x m) (rx x p)<0)→(∀p,j≤p→p<m→cmpI (rx x m) (rx x p)<0)→∃x',Evt (fun k=>heavy_Item_77.l2 k x (m:Int) (i:Int) (j:Int)) x'∧Ok a (m+1) x x'∧Srt x' a (m+1):=by
  have out:∀i j:Nat,¬i<j→a≤i→i≤m→j≤i→(∀p,a≤p→p<i→¬cmpI (rx x m) (rx x p)<0)→(∀p,j≤p→p<m→cmpI (rx x m) (rx x p)<0)→∃x',Evt (fun k=>heavy_Item_77.l2 k x (m:Int) (i:Int) (j:Int)) x'∧Ok a (m+1) x x'∧Srt x' a (m+1):=by
    intro i j c h1 h2 h0 g1 g2
    obtain⟨x',h3,h4,h5⟩:=sm_l3 i m m x hx (by omega) hm
    refine⟨x',Evt.step h3 (fun k=>?_),Ok.of h4 h5 (fun p hp=>by(repeat' split)<;>omega) (fun p q1 q2=>by(repeat' split)<;>omega),fun p q k1 k2 k3=>?_⟩
    · simp only[heavy_Item_77.l2]
      rw[if_neg (by omega)]
    · rw[h5 p,h5 q]
      dsimp only
      by_cases u:p>i
      · rw[if_pos ⟨u,by omega⟩,if_pos ⟨by omega,by omega⟩]
        exact hs (p-1) (q-1) (by omega) (by omega) (by omega)
      · by_cases v:p=i
        · rw[if_neg (c:=i<p∧p≤m) (by omega),if_pos ⟨v,h2⟩,if_pos ⟨by omega,by omega⟩]
          exact lt_lo (g2 (q-1) (by omega) (by omega))
        · rw[if_neg (c:=i<p∧p≤m) (by omega),if_neg (c:=p=i∧i≤m) (by omega)]
          by_cases w:q>i
          · rw[if_pos ⟨w,by omega⟩];exact hs p (q-1) k1 (by omega) (by omega)
          · by_cases z:q=i
            · rw[if_neg (by omega),if_pos ⟨z,h2⟩];exact g1 p k1 (by omega)
            · rw[if_neg (by omega),if_neg (by omega)];exact hs p q k1 k2 (by omega)
  intro d
  induction d with
  |zero=>intro i j hd hij hj hi g1 g2;exact out i j (by omega) hi (by omega) (by omega) g1 g2
  |succ d ih=>
    intro i j hd hij hj hi g1 g2
    by_cases c:i<j
    · have op:∀k,9≤k→heavy_Item_77.l2 (k+1) x (m:Int) (i:Int) (j:Int)=(if cmpI (rd_T68 x (m:Int)) (rd_T68 x (((i+j)/2:Nat):Int))<0 then heavy_Item_77.l2 k x (m:Int) (i:Int) (((i+j)/2:Nat):Int)else heavy_Item_77.l2 k x (m:Int) (((i+j)/2+1:Nat):Int) (j:Int)):=by
        intro k hk
        simp only[heavy_Item_77.l2]
        rw[half i j (by omega) (by omega),i64_in ((((i+j)/2:Nat):Int)+1) (by omega) (by omega),show(((i+j)/2:Nat):Int)+1=(((i+j)/2+1:Nat):Int)by omega,if_pos (by omega),if_pos (by omega),if_pos (by omega),if_pos (by omega),if_pos (by omega),cmp_spec _ _ k (by omega),Option.bind_some]
      obtain⟨h,hh⟩:∃h,h=(i+j)/2:=⟨_,rfl⟩
      rw[←hh]at op
      by_cases g:cmpI (rx x m) (rx x h)<0
      · obtain⟨x',h1,h2,h3⟩:=ih i h (by omega) (by omega) (by omega) hi g1 (fun p q1 q2=>by
          by_cases u:p=h
          · rw[u];exact g
          · exact lt_mono g (lo_refl _) (hs h p (by omega) (by omega) q2))
        exact⟨x',Evt.step5 h1 (fun k hk=>(op k hk).trans (if_pos g)),h2,h3⟩
      · obtain⟨x',h1,h2,h3⟩:=ih (h+1) j (by omega) (by omega) hj (by omega) (fun p q1 q2=>by
          by_cases u:p=h
          · rw[u];exact g
          · exact fun k=>g (lt_mono k (lo_refl _) (hs p h q1 (by omega) (by omega)))) g2
        exact⟨x',Evt.step5 h1 (fun k hk=>(op k hk).trans (if_neg g)),h2,h3⟩
    · exact out i j c hi (by omega) (by omega) g1 g2
theorem Srt.join {x:List S68}{a m b:Nat}(h1:Srt x a m)(h2:Srt x m b)(h3:∀p q,a≤p→p<m→m≤q→q<b→Lo (rx x p) (rx x q)):Srt x a b:=fun p q k1 k2 k3=>by
  by_cases u:q<m
  · exact h1 p q k1 k2 u
  · by_cases v:p<m
    · exact h3 p q k1 v (by omega) k3
    · exact h2 p q (by omega) k2 k3
theorem Srt.sub {x:List S68}{a b c d:Nat}(h:Srt x a b)(h1:a≤c)(h2:d≤b):Srt x c d:=fun p q k1 k2 k3=>h p q (by omega) k2 (by omega)
theorem sm_spec:∀(N a m b:Nat)(x:List S68),x.length≤10000→b≤a+N→a<m→m<b→b≤x.length→Srt x a m→Srt x m b→∃x',Evt (fun k=>heavy_Item_77.f k x (a:Int) (m:Int) (b:Int)) x'∧Ok a b x x'∧Srt x' a b:=by
  intro N
  induction N with
  |zero=>intro a m b x _ h1 h2 h3;omega
  |succ N ih=>
    intro a m b x hx hN ham hmb hb hs1 hs2
    have wa:wrap64 ((m:Int)-a)=(m:Int)-a:=i64_in _ (by omega) (by omega)
    have wb:wrap64 ((b:Int)-m)=(b:Int)-m:=i64_in _ (by omega) (by omega)
    by_cases c1:m=a+1
    · subst c1
      obtain⟨x',h1,h2,h3⟩:=sm_l0 a b x hx hb (by omega) hs2 (b-(a+1)) (a+1) b (by omega) (by omega) (Nat.le_refl _) (Nat.le_refl _) (fun p _ _=>by omega) (fun p _ _=>by omega)
      refine⟨x',Evt.step h1 (fun k=>?_),h2,h3⟩
      simp only[heavy_Item_77.f]
      rw[wa,if_pos (by omega)]
    · by_cases c2:b=m+1
      · subst c2
        obtain⟨x',h1,h2,h3⟩:=sm_l2 a m x hx (by omega) (by omega) hs1 (m-a) a m (by omega) (by omega) (by omega) (Nat.le_refl _) (fun p _ _=>by omega) (fun p _ _=>by omega)
        refine⟨x',Evt.step h1 (fun k=>?_),h2,h3⟩
        simp only[heavy_Item_77.f]
        rw[wa,wb,if_neg (by omega),if_pos (by omega)]
      · obtain⟨mid,hmid⟩:∃z,z=(a+b)/2:=⟨_,rfl⟩
        have right:∀(en:Nat)(x:List S68),x.length≤10000→b≤x.length→mid≤en→en≤b→Srt x mid en→Srt x en b→∃x':List S68,Evt (fun k=>if(mid:Int)<(en:Int)then(if(en:Int)<(b:Int)then((heavy_Item_77.f k x (mid:Int) (en:Int) (b:Int)).bind fun t=>some t)else some x)else some x) x'∧Ok mid b x x'∧Srt x' mid b:=by
          intro en x hx hb e1 e2 s1 s2
          by_cases g1:mid<en
          · by_cases g2:en<b
            · obtain⟨x',⟨m1,h1⟩,h2,h3⟩:=ih mid en b x hx (by omega) g1 g2 hb s1 s2
              refine⟨x',⟨m1,fun k hk=>?_⟩,h2,h3⟩
              have h1:=h1 k hk
              simp only at h1
              show(if(mid:Int)<(en:Int)then _ else _)=_
              rw[if_pos (by omega),if_pos (by omega),h1]
              rfl
            · refine⟨x,⟨0,fun k hk=>?_⟩,Ok.refl _ _ _,s1.sub (Nat.le_refl _) (by omega)⟩
              show(if(mid:Int)<(en:Int)then _ else _)=_
              rw[if_pos (by omega),if_neg (by omega)]
          · refine⟨x,⟨0,fun k hk=>?_⟩,Ok.refl _ _ _,s2.sub (by omega) (Nat.le_refl _)⟩
            show(if(mid:Int)<(en:Int)then _ else _)=_
            rw[if_neg (by omega)]
        have j8:∀(x:List S68)(st en:Nat)(c:Bool),x.length≤10000→b≤x.length→(c=true→a<st∧st<mid)→(c=false→st≤a∨mid≤st)→a≤st→st≤mid→mid≤en→en≤b→Srt x a st→Srt x st mid→Srt x mid en→Srt x en b→(∀p q,a≤p→p<mid→mid≤q→q<b→Lo (rx x p) (rx x q))→∃x',Evt (fun k=>heavy_Item_77.j8 k x (a:Int) (b:Int) (mid:Int) (st:Int) (en:Int) c) x'∧Ok a b x x'∧Srt x' a b:=by
          intro x st en c hx hb hc hc2 e1 e2 e3 e4 s1 s2 s3 s4 cr
          have fin:∀(x1 x2:List S68),Ok a mid x x1→Srt x1 a mid→Ok mid b x1 x2→Srt x2 mid b→Ok a b x x2∧Srt x2 a b:=by
            intro x1 x2 o1 t1 o2 t2
            refine⟨(o1.wide (Nat.le_refl _) (by omega)).trans (o2.wide (by omega) (Nat.le_refl _)),(t1.out o2 (.inl (Nat.le_refl _))).join t2 (fun p q k1 k2 k3 k4=>?_)⟩
            rw[o2.2.1 p (by omega)]
            obtain⟨r,r1,r2,r3⟩:=o2.2.2 q k3 k4
            rw[r3,o1.2.1 r (by omega)]
            obtain⟨u,u1,u2,u3⟩:=o1.2.2 p k1 k2
            rw[u3]
            exact cr u r u1 u2 r1 r2
          cases c with
          |true=>
            obtain⟨g1,g2⟩:=hc rfl
            obtain⟨x1,⟨m1,h1⟩,h2,h2s⟩:=ih a st mid x hx (by omega) g1 g2 (by omega) s1 s2
            have hl:=h2.1.length_eq
            obtain⟨x2,⟨m2,h3⟩,h4,h4s⟩:=right en x1 (by omega) (by omega) e3 e4 (s3.out h2 (.inr (Nat.le_refl _))) (s4.out h2 (.inr (by omega)))
            obtain⟨f1,f2⟩:=fin x1 x2 h2 h2s h4 h4s
            refine⟨x2,⟨m1+m2+1,fun k hk=>?_⟩,f1,f2⟩
            obtain⟨k,rfl⟩:∃z,k=z+1:=⟨k-1,by omega⟩
            have h1:=h1 k (by omega)
            have h3:=h3 k (by omega)
            simp only at h1 h3
            simp only[heavy_Item_77.j8]
            rw[if_pos trivial,h1,Option.bind_some]
            exact h3
          |false=>
            obtain⟨x2,h3,h4,h4s⟩:=right en x hx hb e3 e4 s3 s4
            have t1:Srt x a mid:=by
              rcases hc2 rfl with g|g
              · exact s2.sub g (Nat.le_refl _)
              · exact s1.sub (Nat.le_refl _) g
            obtain⟨f1,f2⟩:=fin x x2 (Ok.refl _ _ _) t1 h4 h4s
            refine⟨x2,Evt.step h3 (fun k=>?_),f1,f2⟩
            simp only[heavy_Item_77.j8]
            rw[if_neg (by decide)]
        have j7:∀(x:List S68)(st en:Nat),x.length≤10000→b≤x.length→a≤st→st≤mid→mid≤en→en≤b→Srt x a st→Srt x st mid→Srt x mid en→Srt x en b→(∀p q,a≤p→p<mid→mid≤q→q<b→Lo (rx x p) (rx x q))→∃x',Evt (fun k=>heavy_Item_77.j7 k x (a:Int) (b:Int) (mid:Int) (st:Int) (en:Int)) x'∧Ok a b x x'∧Srt x' a b:=by
          intro x st en hx hb e1 e2 e3 e4 s1 s2 s3 s4 cr
          by_cases g:a<st
          · obtain⟨x',h1,h2⟩:=j8 x st en (decide ((st:Int)<(mid:Int))) hx hb (fun q=>⟨g,by have:=of_decide_eq_true q;omega⟩) (fun q=>.inr (by have:=of_decide_eq_false q;omega)) e1 e2 e3 e4 s1 s2 s3 s4 cr
            refine⟨x',Evt.step h1 (fun k=>?_),h2⟩
            simp only[heavy_Item_77.j7]
            rw[if_pos (by omega)]
          · obtain⟨x',h1,h2⟩:=j8 x st en false hx hb (fun q=>by cases q) (fun _=>.inl (by omega)) e1 e2 e3 e4 s1 s2 s3 s4 cr
            refine⟨x',Evt.step h1 (fun k=>?_),h2⟩
            simp only[heavy_Item_77.j7]
            rw[if_neg (by omega)]
        have j6:∀(st en:Nat)(c:Bool),(c=true→st<m∧m<en)→(c=false→m≤st∨en≤m)→a≤st→st≤m→m≤en→en≤b→st+en=mid+m→(∀p q,a≤p→p<st→en≤q→q<b→Lo (rx x p) (rx x q))→(∀p q,st≤p→p<m→m≤q→q<en→Lo (rx x q) (rx x p))→∃x',Evt (fun k=>heavy_Item_77.j6 k x (a:Int) (m:Int) (b:Int) (mid:Int) (st:Int) (en:Int) c) x'∧Ok a b x x'∧Srt x' a b:=by
          intro st en c hc hc2 e1 e2 e3 e4 e5 cr1 cr2
          cases c with
          |true=>
            obtain⟨g1,g2⟩:=hc rfl
            obtain⟨x1,⟨m1,h1⟩,h2,hm⟩:=rot_spec st m en x hx g1 g2 (by omega)
            have hl:=h2.length_eq
            have v1:∀p,p<st→rx x1 p=rx x p:=fun p hp=>by rw[hm p];dsimp only;rw[if_neg (by omega),if_neg (by omega)]
            have v2:∀p,st≤p→p<mid→rx x1 p=rx x (p+(m-st)):=fun p hp hq=>by rw[hm p];dsimp only;rw[if_pos (by omega)]
            have v3:∀p,mid≤p→p<en→rx x1 p=rx x (p-(en-m)):=fun p hp hq=>by rw[hm p];dsimp only;rw[if_neg (by omega),if_pos (by omega)]
            have v4:∀p,en≤p→rx x1 p=rx x p:=fun p hp=>by rw[hm p];dsimp only;rw[if_neg (by omega),if_neg (by omega)]
            obtain⟨x2,⟨m2,h3⟩,h4,h4s⟩:=j7 x1 st en (by omega) (by omega) e1 (by omega) (by omega) e4
              (fun p q k1 k2 k3=>by rw[v1 p (by omega),v1 q (by omega)];exact hs1 p q k1 k2 (by omega))
              (fun p q k1 k2 k3=>by rw[v2 p k1 (by omega),v2 q (by omega) k3];exact hs2 _ _ (by omega) (by omega) (by omega))
              (fun p q k1 k2 k3=>by rw[v3 p k1 (by omega),v3 q (by omega) k3];exact hs1 _ _ (by omega) (by omega) (by omega))
              (fun p q k1 k2 k3=>by rw[v4 p k1,v4 q (by omega)];exact hs2 p q (by omega) k2 k3)
              (fun p q k1 k2 k3 k4=>by
                by_cases u:p<st
                · rw[v1 p u]
                  by_cases v:q<en
                  · rw[v3 q k3 v];exact hs1 _ _ k1 (by omega) (by omega)
                  · rw[v4 q (by omega)];exact cr1 p q k1 u (by omega) k4
                · rw[v2 p (by omega) k2]
                  by_cases v:q<en
                  · rw[v3 q k3 v];exact cr2 _ _ (by omega) (by omega) (by omega) (by omega)
                  · rw[v4 q (by omega)];exact hs2 _ _ (by omega) (by omega) k4)
            have o1:Ok a b x x1:=Ok.of h2 hm (fun p hp=>by rw[if_neg (by omega),if_neg (by omega)]) (fun p k1 k2=>by(repeat' split)<;>omega)
            refine⟨x2,⟨m1+m2+1,fun k hk=>?_⟩,o1.trans h4,h4s⟩
            obtain⟨k,rfl⟩:∃z,k=z+1:=⟨k-1,by omega⟩
            have h1:=h1 k (by omega)
            have h3:=h3 k (by omega)
            simp only at h1 h3
            simp only[heavy_Item_77.j6]
            rw[if_pos trivial,h1,Option.bind_some,h3]
          |false=>
            have e6:(st=m∧en=mid)∨(en=m∧st=mid):=by have:=hc2 rfl;omega
            obtain⟨x2,h3,h4⟩:=j7 x st en hx hb e1 (by omega) (by omega) e4 (hs1.sub (Nat.le_refl _) e2)
              (by rcases e6 with⟨u,v⟩|⟨u,v⟩
                  · exact hs2.sub (by omega) (by omega)
                  · exact hs1.sub e1 (by omega))
              (by rcases e6 with⟨u,v⟩|⟨u,v⟩
                  · exact fun p q k1 k2 k3=>by omega
                  · exact hs1.sub (by omega) (by omega))
              (hs2.sub e3 (Nat.le_refl _))
              (fun p q k1 k2 k3 k4=>by
                rcases e6 with⟨u,v⟩|⟨u,v⟩
                · by_cases w:p<m
                  · exact cr1 p q k1 (by omega) (by omega) k4
                  · exact hs2 p q (by omega) (by omega) k4
                · by_cases w:q<m
                  · exact hs1 p q k1 (by omega) w
                  · exact cr1 p q k1 (by omega) (by omega) k4)
            refine⟨x2,Evt.step h3 (fun k=>?_),h4⟩
            simp only[heavy_Item_77.j6]
            rw[if_neg (by decide)]
        have l4:∀(lo hi n:Nat),n=mid+m→a≤lo→hi≤m→n≤lo+b→hi≤mid∨hi=m→(lo=a∨lo+b=n)→(hi=m∨hi+m=n)→lo≤hi→hi+m≤n→n≤30000→∀(d st r:Nat),r≤st+d→lo≤st→st≤r→r≤hi→(∀c,lo≤c→c<st→¬cmpI (rx x (n-1-c)) (rx x c)<0)→(∀c,r≤c→c<hi→cmpI (rx x (n-1-c)) (rx x c)<0)→∃x',Evt (fun k=>heavy_Item_77.l4 k x (a:Int) (m:Int) (b:Int) (mid:Int) (n:Int) (st:Int) (r:Int) ((n:Int)-1)) x'∧Ok a b x x'∧Srt x' a b:=by
          intro lo hi n en0 ea e1 e3 e7 e4 e5 e6 e8 e9
          have out:∀st r:Nat,¬st<r→lo≤st→st≤hi→r≤st→(∀c,lo≤c→c<st→¬cmpI (rx x (n-1-c)) (rx x c)<0)→(∀c,r≤c→c<hi→cmpI (rx x (n-1-c)) (rx x c)<0)→∃x',Evt (fun k=>heavy_Item_77.l4 k x (a:Int) (m:Int) (b:Int) (mid:Int) (n:Int) (st:Int) (r:Int) ((n:Int)-1)) x'∧Ok a b x x'∧Srt x' a b:=by
            intro st r g g1 g2 gr q1 q2
            have cr1:∀p q,a≤p→p<st→n-st≤q→q<b→Lo (rx x p) (rx x q):=by
              intro p q k1 k2 k3 k4
              by_cases u:lo<st
              · have w:=q1 (st-1) (by omega) (by omega)
                have w:Lo (rx x (st-1)) (rx x (n-st)):=by
                  have e:n-1-(st-1)=n-st:=by omega
                  rw[e]at w;exact w
                have w1:Lo (rx x p) (rx x (st-1)):=by
                  by_cases z:p=st-1
                  · rw[z];exact lo_refl _
                  · exact hs1 p (st-1) k1 (by omega) (by omega)
                have w2:Lo (rx x (n-st)) (rx x q):=by
                  by_cases z:q=n-st
                  · rw[z];exact lo_refl _
                  · exact hs2 (n-st) q (by omega) (by omega) k4
                exact lo_trans (lo_trans w1 w) w2
              · omega
            have cr2:∀p q,st≤p→p<m→m≤q→q<n-st→Lo (rx x q) (rx x p):=by
              intro p q k1 k2 k3 k4
              by_cases u:st<hi
              · have w:=lt_lo (q2 st (by omega) u)
                have w1:Lo (rx x q) (rx x (n-1-st)):=by
                  by_cases z:q=n-1-st
                  · rw[z];exact lo_refl _
                  · exact hs2 q (n-1-st) k3 (by omega) (by omega)
                have w2:Lo (rx x st) (rx x p):=by
                  by_cases z:p=st
                  · rw[z];exact lo_refl _
                  · exact hs1 st p (by omega) (by omega) k2
                exact lo_trans (lo_trans w1 w) w2
              · omega
            by_cases g3:st<m
            · obtain⟨x',h1,h2⟩:=j6 st (n-st) (decide ((m:Int)<((n-st:Nat):Int))) (fun q=>⟨g3,by have:=of_decide_eq_true q;omega⟩) (fun q=>.inr (by have:=of_decide_eq_false q;omega)) (by omega) (by omega) (by omega) (by omega) (by omega) cr1 cr2
              refine⟨x',Evt.step h1 (fun k=>?_),h2⟩
              simp only[heavy_Item_77.l4]
              rw[if_neg (by omega),i64_in ((n:Int)-st) (by omega) (by omega),show(n:Int)-st=((n-st:Nat):Int)by omega,if_pos (by omega)]
            · obtain⟨x',h1,h2⟩:=j6 st (n-st) false (fun q=>by cases q) (fun _=>.inl (by omega)) (by omega) (by omega) (by omega) (by omega) (by omega) cr1 cr2
              refine⟨x',Evt.step h1 (fun k=>?_),h2⟩
              simp only[heavy_Item_77.l4]
              rw[if_neg (by omega),i64_in ((n:Int)-st) (by omega) (by omega),show(n:Int)-st=((n-st:Nat):Int)by omega,if_neg (by omega)]
          intro d
          induction d with
          |zero=>intro st r h1 h2 h3 h4 q1 q2;exact out st r (by omega) h2 (by omega) (by omega) q1 q2
          |succ d ihd=>
            intro st r h1 h2 h3 h4 q1 q2
            by_cases g:st<r
            · have op:∀k,9≤k→heavy_Item_77.l4 (k+1) x (a:Int) (m:Int) (b:Int) (mid:Int) (n:Int) (st:Int) (r:Int) ((n:Int)-1)=(if cmpI (rd_T68 x ((n-1-(st+r)/2:Nat):Int)) (rd_T68 x (((st+r)/2:Nat):Int))<0 then heavy_Item_77.l4 k x (a:Int) (m:Int) (b:Int) (mid:Int) (n:Int) (st:Int) (((st+r)/2:Nat):Int) ((n:Int)-1)else heavy_Item_77.l4 k x (a:Int) (m:Int) (b:Int) (mid:Int) (n:Int) (((st+r)/2+1:Nat):Int) (r:Int) ((n:Int)-1)):=by
                intro k hk
                simp only[heavy_Item_77.l4]
                rw[half st r (by omega) (by omega),i64_in ((n:Int)-1-(((st+r)/2:Nat):Int)) (by omega) (by omega),show(n:Int)-1-(((st+r)/2:Nat):Int)=((n-1-(st+r)/2:Nat):Int)by omega,i64_in ((((st+r)/2:Nat):Int)+1) (by omega) (by omega),show(((st+r)/2:Nat):Int)+1=(((st+r)/2+1:Nat):Int)by omega,if_pos (by omega),if_pos (by omega),if_pos (by omega),if_pos (by omega),if_pos (by omega),cmp_spec _ _ k (by omega),Option.bind_some]
              obtain⟨h,hh⟩:∃h,h=(st+r)/2:=⟨_,rfl⟩
              rw[←hh]at op
              by_cases g5:cmpI (rx x (n-1-h)) (rx x h)<0
              · obtain⟨x',q5,q6⟩:=ihd st h (by omega) h2 (by omega) (by omega) q1 (fun c k1 k2=>by
                  by_cases u:c=h
                  · rw[u];exact g5
                  · exact lt_mono g5 (hs2 _ _ (by omega) (by omega) (by omega)) (hs1 h c (by omega) (by omega) (by omega)))
                exact⟨x',Evt.step5 q5 (fun k hk=>(op k hk).trans (if_pos g5)),q6⟩
              · obtain⟨x',q5,q6⟩:=ihd (h+1) r (by omega) (by omega) (by omega) h4 (fun c k1 k2=>by
                  by_cases u:c=h
                  · rw[u];exact g5
                  · exact fun k=>g5 (lt_mono k (hs2 _ _ (by omega) (by omega) (by omega)) (hs1 c h (by omega) (by omega) (by omega)))) q2
                exact⟨x',Evt.step5 q5 (fun k hk=>(op k hk).trans (if_neg g5)),q6⟩
            · exact out st r g h2 (by omega) (by omega) q1 q2
        have wn:wrap64 ((mid:Int)+m)=((mid+m:Nat):Int):=by rw[i64_in _ (by omega) (by omega)];omega
        have wp:wrap64 (((mid+m:Nat):Int)-1)=((mid+m:Nat):Int)-1:=i64_in _ (by omega) (by omega)
        by_cases c3:m>mid
        · obtain⟨x',h1,h2⟩:=l4 (mid+m-b) mid (mid+m) rfl (by omega) (by omega) (by omega) (by omega) (by omega) (by omega) (by omega) (by omega) (by omega) mid (mid+m-b) mid (by omega) (by omega) (by omega) (by omega) (fun c _ _=>by omega) (fun c _ _=>by omega)
          refine⟨x',Evt.step (Evt.step h1 (g:=fun k=>heavy_Item_77.l4 k x (a:Int) (m:Int) (b:Int) (mid:Int) ((mid+m:Nat):Int) ((mid+m-b:Nat):Int) (mid:Int) (((mid+m:Nat):Int)-1)) (f:=fun k=>heavy_Item_77.j4 k x (a:Int) (m:Int) (b:Int) (mid:Int) ((mid+m:Nat):Int) ((mid+m-b:Nat):Int) (mid:Int)) (fun k=>?_)) (fun k=>?_),h2⟩
          · simp only[heavy_Item_77.j4]
            rw[wp]
          · simp only[heavy_Item_77.f]
            rw[wa,wb,if_neg (by omega),if_neg (by omega),half a b (by omega) (by omega),←hmid,wn,i64_in (((mid+m:Nat):Int)-b) (by omega) (by omega),show((mid+m:Nat):Int)-b=((mid+m-b:Nat):Int)by omega,if_pos (by omega)]
        · obtain⟨x',h1,h2⟩:=l4 a m (mid+m) rfl (by omega) (by omega) (by omega) (by omega) (by omega) (by omega) (by omega) (by omega) (by omega) m a m (by omega) (by omega) (by omega) (by omega) (fun c _ _=>by omega) (fun c _ _=>by omega)
          refine⟨x',Evt.step (Evt.step h1 (g:=fun k=>heavy_Item_77.l4 k x (a:Int) (m:Int) (b:Int) (mid:Int) ((mid+m:Nat):Int) (a:Int) (m:Int) (((mid+m:Nat):Int)-1)) (f:=fun k=>heavy_Item_77.j4 k x (a:Int) (m:Int) (b:Int) (mid:Int) ((mid+m:Nat):Int) (a:Int) (m:Int)) (fun k=>?_)) (fun k=>?_),h2⟩
          · simp only[heavy_Item_77.j4]
            rw[wp]
          · simp only[heavy_Item_77.f]
            rw[wa,wb,if_neg (by omega),if_neg (by omega),half a b (by omega) (by omega),←hmid,wn,if_neg (by omega)]
def al (w a:Nat):Prop:=∃u,a=u*w
theorem al_zero (w:Nat):al w 0:=⟨0,by omega⟩
theorem al_next {w a:Nat}(h:al w a):al w (a+w):=by
  obtain⟨u,rfl⟩:=h
  exact⟨u+1,(Nat.succ_mul u w).symm⟩
theorem al_half {w a:Nat}(h:al (2*w) a):al w a:=by
  obtain⟨u,rfl⟩:=h
  exact⟨u*2,(Nat.mul_assoc u 2 w).symm⟩
theorem al_gap {w a b:Nat}(h:al w a)(k:al w b)(g:a<b):a+w≤b:=by
  obtain⟨u,rfl⟩:=h
  obtain⟨v,rfl⟩:=k
  have:u<v:=Nat.lt_of_mul_lt_mul_right g
  have:=Nat.mul_le_mul_right w (show u+1≤v by omega)
  rw[Nat.succ_mul]at this
  exact this
def Bk (w n:Nat)(x:List S68):Prop:=∀a,al w a→a<n→Srt x a (min (a+w) n)
theorem st_l1 (n:Nat):∀(N bs:Nat)(x:List S68),x.length=n→n≤10000→n≤bs+N→20≤bs→bs≤20000→Bk bs n x→∃x',Evt (fun k=>heavy_Item_59.l1 k x (n:Int) (bs:Int)) x'∧x'.Perm x∧Srt x' 0 n:=by
  intro N
  have done:∀(bs:Nat)(x:List S68),n≤bs→Bk bs n x→Srt x 0 n:=by
    intro bs x h hb
    by_cases c:n=0
    · exact fun p q _ _ _=>by omega
    · exact(hb 0 (al_zero bs) (by omega)).sub (Nat.le_refl _) (by omega)
  induction N with
  |zero=>
    intro bs x hx hn hN h1 h2 hb
    refine⟨x,Evt.step (Evt.now (f:=fun _=>some _) (fun _=>rfl)) (fun k=>?_),List.Perm.refl _,done bs x (by omega) hb⟩
    simp only[heavy_Item_59.l1]
    rw[if_neg (by omega)]
  |succ N ih=>
    intro bs x hx hn hN h1 h2 hb
    by_cases c:bs<n
    · have w2:wrap64 (2*(bs:Int))=((2*bs:Nat):Int):=by rw[i64_in _ (by omega) (by omega)];omega
      have w3:wrap64 ((bs:Int)*2)=((bs*2:Nat):Int):=by rw[i64_in _ (by omega) (by omega)];omega
      have l2:∀(d a:Nat)(x:List S68),x.length=n→n≤a+d→a≤n→al (2*bs) a→(∀c,al (2*bs) c→c<a→Srt x c (min (c+2*bs) n))→(∀c,al bs c→a≤c→c<n→Srt x c (min (c+bs) n))→∃x',Evt (fun k=>heavy_Item_59.l2 k x (n:Int) (bs:Int) (a:Int) ((a+2*bs:Nat):Int)) x'∧x'.Perm x∧Srt x' 0 n:=by
        intro d
        have last:∀(a:Nat)(x:List S68),x.length=n→a≤n→¬a+2*bs≤n→al (2*bs) a→(∀c,al (2*bs) c→c<a→Srt x c (min (c+2*bs) n))→(∀c,al bs c→a≤c→c<n→Srt x c (min (c+bs) n))→∃x',Evt (fun k=>heavy_Item_59.l2 k x (n:Int) (bs:Int) (a:Int) ((a+2*bs:Nat):Int)) x'∧x'.Perm x∧Srt x' 0 n:=by
          intro a x hx ha g la i1 i2
          by_cases g2:a+bs<n
          · obtain⟨x1,⟨m1,q1⟩,q2,q2s⟩:=sm_spec n a (a+bs) n x (by omega) (by omega) (by omega) g2 (by omega) ((i2 a (al_half la) (Nat.le_refl _) (by omega)).sub (Nat.le_refl _) (by omega)) ((i2 (a+bs) (al_next (al_half la)) (by omega) g2).sub (Nat.le_refl _) (by omega))
            have hl:=q2.1.length_eq
            obtain⟨x2,⟨m2,q3⟩,q4⟩:=ih (bs*2) x1 (by omega) hn (by omega) (by omega) (by omega) (fun e le hne=>by
              rw[Nat.mul_comm]at le ⊢
              by_cases u:e<a
              · have:=al_gap le la u
                exact(i1 e le u).out q2 (.inl (by omega))
              · by_cases v:e=a
                · subst v;exact q2s.sub (Nat.le_refl _) (by omega)
                · have:=al_gap la le (by omega)
                  omega)
            refine⟨x2,⟨m1+m2+1,fun k hk=>?_⟩,q4.1.trans q2.1,q4.2⟩
            obtain⟨k,rfl⟩:∃z,k=z+1:=⟨k-1,by omega⟩
            have q1:=q1 k (by omega)
            have q3:=q3 k (by omega)
            simp only at q1 q3
            simp only[heavy_Item_59.l2]
            rw[if_neg (by omega),i64_in ((a:Int)+bs) (by omega) (by omega),show(a:Int)+bs=((a+bs:Nat):Int)by omega,if_pos (by omega),q1,Option.bind_some,w3,q3]
          · obtain⟨x2,q3,q4⟩:=ih (bs*2) x hx hn (by omega) (by omega) (by omega) (fun e le hne=>by
              rw[Nat.mul_comm]at le ⊢
              by_cases u:e<a
              · exact i1 e le u
              · by_cases v:e=a
                · subst v;exact(i2 e (al_half la) (Nat.le_refl _) hne).sub (Nat.le_refl _) (by omega)
                · have:=al_gap la le (by omega)
                  omega)
            refine⟨x2,Evt.step q3 (fun k=>?_),q4⟩
            simp only[heavy_Item_59.l2]
            rw[if_neg (by omega),i64_in ((a:Int)+bs) (by omega) (by omega),if_neg (by omega),w3]
        induction d with
        |zero=>intro a x hx h3 h4 la i1 i2;exact last a x hx h4 (by omega) la i1 i2
        |succ d ihd=>
          intro a x hx h3 h4 la i1 i2
          by_cases g:a+2*bs≤n
          · obtain⟨x1,⟨m1,q1⟩,q2,q2s⟩:=sm_spec n a (a+bs) (a+2*bs) x (by omega) (by omega) (by omega) (by omega) (by omega) ((i2 a (al_half la) (Nat.le_refl _) (by omega)).sub (Nat.le_refl _) (by omega)) ((i2 (a+bs) (al_next (al_half la)) (by omega) (by omega)).sub (Nat.le_refl _) (by omega))
            have hl:=q2.1.length_eq
            obtain⟨x2,⟨m2,q3⟩,q4⟩:=ihd (a+2*bs) x1 (by omega) (by omega) g (al_next la) (fun e le he=>by
              by_cases u:e<a
              · have:=al_gap le la u
                exact(i1 e le u).out q2 (.inl (by omega))
              · by_cases v:e=a
                · subst v;exact q2s.sub (Nat.le_refl _) (by omega)
                · have:=al_gap la le (by omega)
                  omega) (fun e le h5 h6=>(i2 e le (by omega) h6).out q2 (.inr (by omega)))
            refine⟨x2,⟨m1+m2+1,fun k hk=>?_⟩,q4.1.trans q2.1,q4.2⟩
            obtain⟨k,rfl⟩:∃z,k=z+1:=⟨k-1,by omega⟩
            have q1:=q1 k (by omega)
            have q3:=q3 k (by omega)
            simp only at q1 q3
            simp only[heavy_Item_59.l2]
            rw[if_pos (by omega),i64_in ((a:Int)+bs) (by omega) (by omega),show(a:Int)+bs=((a+bs:Nat):Int)by omega,q1,Option.bind_some,w2,i64_in (((a+2*bs:Nat):Int)+((2*bs:Nat):Int)) (by omega) (by omega),show((a+2*bs:Nat):Int)+((2*bs:Nat):Int)=((a+2*bs+2*bs:Nat):Int)by omega,q3]
          · exact last a x hx h4 g la i1 i2
      obtain⟨x',q1,q2⟩:=l2 n 0 x hx (by omega) (by omega) (al_zero _) (fun e _ h=>by omega) (fun e le _ h=>hb e le h)
      refine⟨x',Evt.step q1 (fun k=>?_),q2⟩
      simp only[heavy_Item_59.l1]
      rw[if_pos (by omega),w2,show((0+2*bs:Nat):Int)=((2*bs:Nat):Int)by omega]
      rfl
    · refine⟨x,Evt.step (Evt.now (f:=fun _=>some _) (fun _=>rfl)) (fun k=>?_),List.Perm.refl _,done bs x (by omega) hb⟩
      simp only[heavy_Item_59.l1]
      rw[if_neg (by omega)]
theorem sort_spec (x:List S68)(hx:x.length≤10000):∃x',Evt (fun k=>heavy_Item_34.f k x) x'∧x'.Perm x∧Srt x' 0 x.length:=by
  obtain⟨n,hn⟩:∃n,n=x.length:=⟨_,rfl⟩
  have l0:∀(d a:Nat)(x:List S68),x.length=n→n≤a+d→a≤n→al 20 a→(∀c,al 20 c→c<a→Srt x c (min (c+20) n))→∃x',Evt (fun k=>heavy_Item_59.l0 k x (n:Int) 20 (a:Int) ((a+20:Nat):Int)) x'∧x'.Perm x∧Srt x' 0 n:=by
    intro d
    have last:∀(a:Nat)(x:List S68),x.length=n→a≤n→¬a+20≤n→al 20 a→(∀c,al 20 c→c<a→Srt x c (min (c+20) n))→∃x',Evt (fun k=>heavy_Item_59.l0 k x (n:Int) 20 (a:Int) ((a+20:Nat):Int)) x'∧x'.Perm x∧Srt x' 0 n:=by
      intro a x hx2 ha g la i1
      obtain⟨x1,⟨m1,q1⟩,q2,q2s⟩:=ins_spec a n x (by omega) ha (by omega)
      have hl:=q2.1.length_eq
      obtain⟨x2,⟨m2,q3⟩,q4⟩:=st_l1 n n 20 x1 (by omega) (by omega) (by omega) (by omega) (by omega) (fun e le hne=>by
        by_cases u:e<a
        · have:=al_gap le la u
          exact(i1 e le u).out q2 (.inl (by omega))
        · by_cases v:e=a
          · subst v;exact q2s.sub (Nat.le_refl _) (by omega)
          · have:=al_gap la le (by omega)
            omega)
      refine⟨x2,⟨m1+m2+1,fun k hk=>?_⟩,q4.1.trans q2.1,q4.2⟩
      obtain⟨k,rfl⟩:∃z,k=z+1:=⟨k-1,by omega⟩
      have q1:=q1 k (by omega)
      have q3:=q3 k (by omega)
      simp only at q1 q3
      simp only[heavy_Item_59.l0]
      rw[if_neg (by omega),q1,Option.bind_some]
      exact q3
    induction d with
    |zero=>intro a x hx2 h3 h4 la i1;exact last a x hx2 h4 (by omega) la i1
    |succ d ihd=>
      intro a x hx2 h3 h4 la i1
      by_cases g:a+20≤n
      · obtain⟨x1,⟨m1,q1⟩,q2,q2s⟩:=ins_spec a (a+20) x (by omega) (by omega) (by omega)
        have hl:=q2.1.length_eq
        obtain⟨x2,⟨m2,q3⟩,q4⟩:=ihd (a+20) x1 (by omega) (by omega) g (al_next la) (fun e le he=>by
          by_cases u:e<a
          · have:=al_gap le la u
            exact(i1 e le u).out q2 (.inl (by omega))
          · by_cases v:e=a
            · subst v;exact q2s.sub (Nat.le_refl _) (by omega)
            · have:=al_gap la le (by omega)
              omega)
        refine⟨x2,⟨m1+m2+1,fun k hk=>?_⟩,q4.1.trans q2.1,q4.2⟩
        obtain⟨k,rfl⟩:∃z,k=z+1:=⟨k-1,by omega⟩
        have q1:=q1 k (by omega)
        have q3:=q3 k (by omega)
        simp only at q1 q3
        simp only[heavy_Item_59.l0]
        rw[if_pos (by omega),q1,Option.bind_some,i64_in (((a+20:Nat):Int)+20) (by omega) (by omega),show((a+20:Nat):Int)+20=((a+20+20:Nat):Int)by omega,q3]
      · exact last a x hx2 h4 g la i1
  obtain⟨x',⟨m1,q1⟩,q2⟩:=l0 n 0 x hn.symm (by omega) (by omega) (al_zero _) (fun e _ h=>by omega)
  refine⟨x',⟨m1,fun k hk=>?_⟩,hn ▸ q2⟩
  have q1:=q1 k hk
  simp only at q1
  unfold heavy_Item_34.f heavy_Item_59.f
  rw[←hn]
  exact(congrArg (fun o=>Option.bind o (fun t=>some t)) q1).trans rfl
theorem less_iff:∀a b:List UInt8,Op.bytesLess a b=true↔Lib.compareBytes a b<0
  |[],[]=>by simp[Op.bytesLess,Lib.compareBytes]
  |_::_,[]=>by simp[Op.bytesLess,Lib.compareBytes]
  |[],_::_=>by simp[Op.bytesLess,Lib.compareBytes]
  |x::a,y::b=>by
    simp only[Op.bytesLess,Lib.compareBytes,Bool.or_eq_true,Bool.and_eq_true,decide_eq_true_eq,beq_iff_eq]
    by_cases c:x<y
    · rw[if_pos c];exact⟨fun _=>by decide,fun _=>.inl c⟩
    · rw[if_neg c]
      by_cases d:y<x
      · rw[if_pos d]
        refine⟨fun h=>?_,fun h=>absurd h (by decide)⟩
        rcases h with h|h
        · exact absurd h c
        · rw[h.1,UInt8.lt_iff_toNat_lt]at d;omega
      · rw[if_neg d,←less_iff a b]
        exact⟨fun h=>h.elim (fun h=>absurd h c) (fun h=>h.2),fun h=>.inr ⟨UInt8.toNat_inj.1 (by rw[UInt8.lt_iff_toNat_lt]at c d;omega),h⟩⟩
theorem less_cmp (a b:List UInt8):Op.bytesLess a b=decide (Lib.compareBytes a b<0):=by
  rw[Bool.eq_iff_iff,decide_eq_true_eq];exact less_iff a b
def i100 (x:S68):S100:=⟨x.f0,x.f1⟩
def e7 (e:S76):S77:=⟨e.f0,e.f1,e.f2⟩
def b7 (b:S56):S74:=⟨b.f0.map e7,b.f1⟩
theorem rd100 (l:List S68)(i:Nat)(h:i<l.length):rd_T100 (l.map i100) (i:Int)=i100 l[i]:=by
  unfold rd_T100
  rw[Int.toNat_natCast,List.getD_eq_getElem?_getD,List.getElem?_map,List.getElem?_eq_getElem h]
  rfl
theorem rd77 (l:List S76)(i:Nat)(h:i<l.length):rd_T77 (l.map e7) (i:Int)=e7 (rd_T76 l (i:Int)):=by
  unfold rd_T77 rd_T76
  rw[Int.toNat_natCast,List.getD_eq_getElem?_getD,List.getD_eq_getElem?_getD,List.getElem?_map,List.getElem?_eq_getElem h]
  rfl
theorem rd74 (l:List S56)(i:Nat)(h:i<l.length):rd_T74 (l.map b7) (i:Int)=b7 (rd_T56 l (i:Int)):=by
  unfold rd_T74 rd_T56
  rw[Int.toNat_natCast,List.getD_eq_getElem?_getD,List.getD_eq_getElem?_getD,List.getElem?_map,List.getElem?_eq_getElem h]
  rfl
theorem ahead_spec (x e:S68):rillmeterref14_Ahead.f x.f0 x.f1 e.f0 e.f1=some (decide (cmpI x e<0)):=by
  unfold rillmeterref14_Ahead.f cmpI cmp2
  by_cases c:x.f1>e.f1
  · rw[if_pos c,if_pos (show e.f1<x.f1 from c),if_neg (by decide)];rfl
  · rw[if_neg c]
    by_cases d:x.f1=e.f1
    · rw[if_pos d,if_neg (show¬e.f1<x.f1 by omega),if_neg (show¬e.f1>x.f1 by omega),if_pos rfl,less_cmp,Lib.toList_data,Lib.toList_data]
    · rw[if_neg d,if_neg (show¬e.f1<x.f1 by omega),if_pos (show e.f1>x.f1 by omega),if_neg (by decide)];rfl
def insL (x:S68):List S68→List S68
  |[]=>[x]
  |e::l=>if cmpI x e<0 then x::e::l else e::insL x l
theorem put_t (x:S68)(l:List S68)(hl:l.length≤20000):∀(d i:Nat)(acc:List S100),i+d=l.length→acc.length+d≤30000→Evt (fun k=>rillmeterref14_Put.l0 k (l.map i100) acc true (i:Int) x.f0 x.f1) (acc++(l.drop i).map i100):=by
  intro d
  induction d with
  |zero=>
    intro i acc hi ha
    rw[List.drop_of_length_le (by omega),List.map_nil,List.append_nil]
    refine Evt.step (Evt.now (f:=fun _=>some _) (fun _=>rfl)) (fun k=>?_)
    simp only[rillmeterref14_Put.l0,List.length_map]
    rw[if_neg (by omega),if_pos trivial]
  |succ d ih=>
    intro i acc hi ha
    have h:=ih (i+1) (acc++[i100 l[i]]) (by omega) (by simp only[List.length_append,List.length_cons,List.length_nil];omega)
    rw[List.drop_eq_getElem_cons (by omega:i<l.length),List.map_cons,List.append_cons]
    refine Evt.step h (fun k=>?_)
    simp only[rillmeterref14_Put.l0,List.length_map]
    rw[if_pos (by omega),if_pos trivial,if_pos (by omega),if_pos (by omega),rd100 l i (by omega),i64_in ((i:Int)+1) (by omega) (by omega),show(i:Int)+1=((i+1:Nat):Int)by omega]
theorem put_f (x:S68)(l:List S68)(hl:l.length≤20000):∀(d i:Nat)(acc:List S100),i+d=l.length→acc.length+d≤20000→Evt (fun k=>rillmeterref14_Put.l0 k (l.map i100) acc false (i:Int) x.f0 x.f1) (acc++(insL x (l.drop i)).map i100):=by
  intro d
  induction d with
  |zero=>
    intro i acc hi ha
    rw[List.drop_of_length_le (by omega)]
    refine Evt.step (Evt.now (f:=fun _=>some _) (fun _=>rfl)) (fun k=>?_)
    simp only[rillmeterref14_Put.l0,List.length_map]
    rw[if_neg (by omega),if_neg (by decide),if_pos (by omega)]
    rfl
  |succ d ih=>
    intro i acc hi ha
    have op:∀k,rillmeterref14_Put.l0 (k+1) (l.map i100) acc false (i:Int) x.f0 x.f1=(if cmpI x l[i]<0 then rillmeterref14_Put.l0 k (l.map i100) (acc++[i100 x]++[i100 l[i]]) true ((i+1:Nat):Int) x.f0 x.f1 else rillmeterref14_Put.l0 k (l.map i100) (acc++[i100 l[i]]) false ((i+1:Nat):Int) x.f0 x.f1):=by
      intro k
      simp only[rillmeterref14_Put.l0,List.length_map]
      rw[if_pos (by omega),if_neg (by decide),if_pos (by omega),rd100 l i (by omega),show(i100 l[i]).f0=l[i].f0 from rfl,show(i100 l[i]).f1=l[i].f1 from rfl,ahead_spec x l[i],Option.bind_some,i64_in ((i:Int)+1) (by omega) (by omega),show(i:Int)+1=((i+1:Nat):Int)by omega]
      by_cases c:cmpI x l[i]<0
      · rw[if_pos c,if_pos (decide_eq_true c),if_pos (by omega),Option.bind_some,if_pos (by simp only[List.length_append,List.length_cons,List.length_nil];omega)]
        rfl
      · rw[if_neg c,if_neg (by rw[decide_eq_false c];decide),if_pos (by omega)]
        rfl
    rw[List.drop_eq_getElem_cons (by omega:i<l.length)]
    by_cases c:cmpI x l[i]<0
    · have h:=put_t x l hl d (i+1) (acc++[i100 x]++[i100 l[i]]) (by omega) (by simp only[List.length_append,List.length_cons,List.length_nil];omega)
      rw[show insL x (l[i] ::l.drop (i+1))=x::l[i] ::l.drop (i+1)from if_pos c,List.map_cons,List.map_cons,List.append_cons,List.append_cons]
      exact Evt.step h (fun k=>(op k).trans (if_pos c))
    · have h:=ih (i+1) (acc++[i100 l[i]]) (by omega) (by simp only[List.length_append,List.length_cons,List.length_nil];omega)
      rw[show insL x (l[i] ::l.drop (i+1))=l[i] ::insL x (l.drop (i+1))from if_neg c,List.map_cons,List.append_cons]
      exact Evt.step h (fun k=>(op k).trans (if_neg c))
theorem put_spec (x:S68)(l:List S68)(hl:l.length≤20000):Evt (fun k=>rillmeterref14_Put.f k (l.map i100) x.f0 x.f1) ((insL x l).map i100):=(put_f x l hl l.length 0 [] (by omega) (by rw[List.length_nil];omega)).eq (fun k=>rfl)
def lsort (l:List S68):List S68:=l.foldl (fun a x=>insL x a) []
theorem lsort_snoc (l:List S68)(x:S68):lsort (l++[x])=insL x (lsort l):=by unfold lsort;rw[List.foldl_append];rfl
theorem ins_perm (x:S68):∀l,(insL x l).Perm (x::l)
  |[]=>List.Perm.refl _
  |e::l=>by
    unfold insL
    split
    · exact List.Perm.refl _
    · exact((ins_perm x l).cons e).trans (List.Perm.swap x e l)
theorem ins_mem {x y:S68}{l:List S68}(h:y∈insL x l):y=x∨y∈l:=by
  rcases List.mem_cons.1 ((ins_perm x l).mem_iff.1 h)with h|h
  · exact .inl h
  · exact .inr h
theorem ins_sorted (x:S68):∀l,l.Pairwise Lo→(insL x l).Pairwise Lo
  |[],_=>List.pairwise_singleton _ _
  |e::l,h=>by
    rw[List.pairwise_cons]at h
    unfold insL
    split
    · rename_i c
      refine List.pairwise_cons.2 ⟨fun y hy=>?_,List.pairwise_cons.2 h⟩
      rcases List.mem_cons.1 hy with rfl|hy
      · exact lt_lo c
      · exact lo_trans (lt_lo c) (h.1 y hy)
    · rename_i c
      refine List.pairwise_cons.2 ⟨fun y hy=>?_,ins_sorted x l h.2⟩
      rcases ins_mem hy with rfl|hy
      · exact c
      · exact h.1 y hy
theorem lsort_ok (l:List S68):(lsort l).Perm l∧(lsort l).Pairwise Lo:=by
  have:∀(l a:List S68),a.Pairwise Lo→(l.foldl (fun a x=>insL x a) a).Perm (a++l)∧(l.foldl (fun a x=>insL x a) a).Pairwise Lo:=by
    intro l
    induction l with
    |nil=>intro a h;rw[List.append_nil];exact⟨List.Perm.refl _,h⟩
    |cons x l ih=>
      intro a h
      obtain⟨h1,h2⟩:=ih (insL x a) (ins_sorted x a h)
      exact⟨h1.trans (((ins_perm x a).append_right l).trans (List.perm_middle.symm)),h2⟩
  have h:=this l [] List.Pairwise.nil
  exact h
theorem sorted_eq:∀a b:List S68,a.Perm b→a.Pairwise Lo→b.Pairwise Lo→a=b
  |[],b,h,_,_=>(List.nil_perm.1 h).symm
  |x::a,[],h,_,_=>absurd (List.perm_nil.1 h) (by simp)
  |x::a,y::b,h,ha,hb=>by
    rw[List.pairwise_cons]at ha hb
    have e:x=y:=by
      rcases List.mem_cons.1 (h.mem_iff.1 (List.mem_cons_self (a:=x) (l:=a)))with e|e
      · exact e
      · rcases List.mem_cons.1 (h.mem_iff.2 (List.mem_cons_self (a:=y) (l:=b)))with g|g
        · exact g.symm
        · exact lo_anti (ha.1 y g) (hb.1 x e)
    subst e
    rw[sorted_eq a b ((List.perm_cons x).1 h) ha.2 hb.2]
theorem srt_pair {x:List S68}(h:Srt x 0 x.length):x.Pairwise Lo:=by
  rw[List.pairwise_iff_getElem]
  intro i j hi hj hij
  have:=h i j (Nat.zero_le _) hij hj
  unfold rx at this
  rw[rd68 x i hi,rd68 x j hj]at this
  exact this
theorem sort_eq (x:List S68)(hx:x.length≤10000):Evt (fun k=>heavy_Item_34.f k x) (lsort x):=by
  obtain⟨x',h1,h2,h3⟩:=sort_spec x hx
  rw[←h2.length_eq]at h3
  rw[←sorted_eq x' (lsort x) (h2.trans (lsort_ok x).1.symm) (srt_pair h3) (lsort_ok x).2]
  exact h1
theorem elist_l0 (most:Int)(B:List S56)(hb1:B.length≤300)(hl8:∀b∈B,b.f0.length≤20):Evt (fun k=>elastic_List.l0 k most [] B (B.length:Int) 0) (lsort (items most B)):=by
  have l0:∀(d i:Nat),i+d=B.length→Evt (fun k=>elastic_List.l0 k most (items most (B.take i)) B (B.length:Int) (i:Int)) (lsort (items most B)):=by
    intro d
    induction d with
    |zero=>
      intro i hi
      have hlen:=items_len most 20 B hl8
      obtain⟨m1,h1⟩:=sort_eq (items most B) (by omega)
      refine⟨m1+1,fun k hk=>?_⟩
      obtain⟨k,rfl⟩:∃z,k=z+1:=⟨k-1,by omega⟩
      have h1:=h1 k (by omega)
      simp only at h1
      simp only[elastic_List.l0]
      rw[if_neg (by omega),List.take_of_length_le (by omega),h1,Option.bind_some]
    |succ d ih=>
      intro i hi
      obtain⟨e1,hm⟩:=take56 B i (by omega)
      have hl:=hl8 _ hm
      have hacc:=items_len most 20 (B.take i) (fun b hb=>hl8 b (List.mem_of_mem_take hb))
      rw[List.length_take]at hacc
      have hn:=ih (i+1) (by omega)
      rw[e1,items_snoc]at hn
      generalize hy:rd_T56 B (i:Int)=y at *
      have l1:∀(d j:Nat),j+d=y.f0.length→Evt (fun k=>elastic_List.l1 k most (items most (B.take i)++entsE most (y.f0.take j)) B (B.length:Int) (i:Int) y.f0 (y.f0.length:Int) (j:Int)) (lsort (items most B)):=by
        intro d
        induction d with
        |zero=>
          intro j hj
          refine Evt.step hn (fun k=>?_)
          simp only[elastic_List.l1]
          rw[if_neg (by omega),List.take_of_length_le (l:=y.f0) (by omega),i64_in ((i:Int)+1) (by omega) (by omega),show(i:Int)+1=((i+1:Nat):Int)by omega]
        |succ d ihd=>
          intro j hj
          obtain⟨e2,_⟩:=take76 y.f0 j (by omega)
          have h1:=ihd (j+1) (by omega)
          rw[e2,entsE_snoc]at h1
          have hj2:=entsE_len most (y.f0.take j)
          rw[List.length_take]at hj2
          refine Evt.step h1 (fun k=>?_)
          simp only[elastic_List.l1]
          rw[if_pos (by omega),if_pos (by omega),if_pos (by omega),i64_in ((j:Int)+1) (by omega) (by omega),show(j:Int)+1=((j+1:Nat):Int)by omega]
          by_cases c:most≤(rd_T76 y.f0 (j:Int)).f1
          · rw[if_pos (show(rd_T76 y.f0 (j:Int)).f1≥most from c),if_pos (by rw[List.length_append];omega),if_pos c,List.append_assoc]
          · rw[if_neg (show¬(rd_T76 y.f0 (j:Int)).f1≥most from c),if_neg c,List.append_nil]
      have h1:=l1 y.f0.length 0 (by omega)
      rw[List.take_zero,show entsE most []=[]from rfl,List.append_nil]at h1
      refine Evt.step h1 (fun k=>?_)
      simp only[elastic_List.l0]
      rw[if_pos (by omega),if_pos (by omega),if_pos (by omega),hy]
      rfl
  exact l0 B.length 0 (by omega)
theorem lsort_len (l:List S68):(lsort l).length=l.length:=(lsort_ok l).1.length_eq
theorem rlist_spec (s r v H m:Int)(rows:List (List Int))(most:Int)(B:List S56)(hb1:B.length≤300)(hl8:∀b∈B,b.f0.length≤20):Evt (fun k=>rillmeterref15_List.f k s r v (B.map b7) H m rows most) ((lsort (items most B)).map i100):=by
  have l0:∀(d i:Nat),i+d=B.length→Evt (fun k=>rillmeterref15_List.l0 k most ((lsort (items most (B.take i))).map i100) (i:Int) s r v (B.map b7) H m rows) ((lsort (items most B)).map i100):=by
    intro d
    induction d with
    |zero=>
      intro i hi
      refine Evt.step (Evt.now (f:=fun _=>some _) (fun _=>rfl)) (fun k=>?_)
      simp only[rillmeterref15_List.l0,List.length_map]
      rw[if_neg (by omega),List.take_of_length_le (by omega)]
    |succ d ih=>
      intro i hi
      obtain⟨e1,hm⟩:=take56 B i (by omega)
      have hl:=hl8 _ hm
      have hacc:=items_len most 20 (B.take i) (fun b hb=>hl8 b (List.mem_of_mem_take hb))
      rw[List.length_take]at hacc
      have hn:=ih (i+1) (by omega)
      rw[e1,items_snoc]at hn
      generalize hy:rd_T56 B (i:Int)=y at *
      have l1:∀(d j:Nat),j+d=y.f0.length→Evt (fun k=>rillmeterref15_List.l1 k most ((lsort (items most (B.take i)++entsE most (y.f0.take j))).map i100) (i:Int) (y.f0.map e7) (y.f0.length:Int) (j:Int) s r v (B.map b7) H m rows) ((lsort (items most B)).map i100):=by
        intro d
        induction d with
        |zero=>
          intro j hj
          refine Evt.step hn (fun k=>?_)
          simp only[rillmeterref15_List.l1]
          rw[if_neg (by omega),List.take_of_length_le (l:=y.f0) (by omega),i64_in ((i:Int)+1) (by omega) (by omega),show(i:Int)+1=((i+1:Nat):Int)by omega]
        |succ d ihd=>
          intro j hj
          obtain⟨e2,_⟩:=take76 y.f0 j (by omega)
          have h1:=ihd (j+1) (by omega)
          rw[e2,entsE_snoc]at h1
          have hj2:=entsE_len most (y.f0.take j)
          rw[List.length_take]at hj2
          by_cases c:most≤(rd_T76 y.f0 (j:Int)).f1
          · obtain⟨m1,h2⟩:=put_spec ⟨(rd_T76 y.f0 (j:Int)).f0,(rd_T76 y.f0 (j:Int)).f1⟩ (lsort (items most (B.take i)++entsE most (y.f0.take j))) (by rw[lsort_len,List.length_append];omega)
            rw[if_pos c,←List.append_assoc,lsort_snoc]at h1
            obtain⟨m2,h1⟩:=h1
            refine⟨m1+m2+1,fun k hk=>?_⟩
            obtain⟨k,rfl⟩:∃z,k=z+1:=⟨k-1,by omega⟩
            have h1:=h1 k (by omega)
            have h2:=h2 k (by omega)
            simp only at h1 h2
            simp only[rillmeterref15_List.l1,List.length_map]
            rw[if_pos (by omega),if_pos (by omega),if_pos (by omega),rd77 _ _ (by omega),if_pos (show(e7 (rd_T76 y.f0 (j:Int))).f1≥most from c),show(e7 (rd_T76 y.f0 (j:Int))).f0=(rd_T76 y.f0 (j:Int)).f0 from rfl,show(e7 (rd_T76 y.f0 (j:Int))).f1=(rd_T76 y.f0 (j:Int)).f1 from rfl,h2,Option.bind_some,i64_in ((j:Int)+1) (by omega) (by omega),show(j:Int)+1=((j+1:Nat):Int)by omega]
            exact h1
          · rw[if_neg c,List.append_nil]at h1
            refine Evt.step h1 (fun k=>?_)
            simp only[rillmeterref15_List.l1,List.length_map]
            rw[if_pos (by omega),if_pos (by omega),if_pos (by omega),rd77 _ _ (by omega),if_neg (show¬(e7 (rd_T76 y.f0 (j:Int))).f1≥most from c),i64_in ((j:Int)+1) (by omega) (by omega),show(j:Int)+1=((j+1:Nat):Int)by omega]
      have h1:=l1 y.f0.length 0 (by omega)
      rw[List.take_zero,show entsE most []=[]from rfl,List.append_nil]at h1
      refine Evt.step h1 (fun k=>?_)
      simp only[rillmeterref15_List.l0,List.length_map]
      rw[if_pos (by omega),if_pos (by omega),rd74 _ _ (by omega),hy]
      unfold b7
      rw[List.length_map]
      rfl
  exact(l0 B.length 0 (by omega)).eq (fun k=>rfl)
theorem items_same (l:List S68)(hl:l.length≤20000):Evt (fun k=>rillmeterlaw15_items.f k l (l.map i100)) true:=by
  have l0:∀(d i:Nat),i+d=l.length→Evt (fun k=>rillmeterlaw15_items.l0 k l (l.map i100) (l.length:Int) (i:Int)) true:=by
    intro d
    induction d with
    |zero=>
      intro i hi
      refine Evt.step (Evt.now (f:=fun _=>some _) (fun _=>rfl)) (fun k=>?_)
      simp only[rillmeterlaw15_items.l0]
      rw[if_neg (by omega)]
    |succ d ih=>
      intro i hi
      refine Evt.step (ih (i+1) (by omega)) (fun k=>?_)
      simp only[rillmeterlaw15_items.l0,List.length_map]
      rw[if_pos (by omega),if_pos (by omega),if_pos (by omega),if_pos (by omega),rd100 l i (by omega),rd68 l i (by omega),if_neg (by simp[i100]),i64_in ((i:Int)+1) (by omega) (by omega),show(i:Int)+1=((i+1:Nat):Int)by omega]
  refine(l0 l.length 0 (by omega)).eq (fun k=>?_)
  unfold rillmeterlaw15_items.f
  rw[if_pos (by rw[List.length_map])]
  rfl
def okB (r:Int)(y:S56):Prop:=(y.f0.length:Int)≤r∧(0≤y.f1∧y.f1≤1099511627776)∧(∀e∈y.f0,1≤e.f1∧e.f1≤1099511627776)∧(keysE y.f0).Nodup
def own (l:List S76)(i:Nat):Prop:=∀j,i≤j→j<l.length→elastic_find.go (rd_T76 l (j:Int)).f0 l 0=(j:Int)
def fit (l:List S76)(i:Nat):Prop:=∀j,i≤j→j<l.length→1≤(rd_T76 l (j:Int)).f1∧(rd_T76 l (j:Int)).f1≤1099511627776
theorem go_self (l:List S76)(j:Nat)(h:j<l.length):∃i,i≤j∧elastic_find.go (rd_T76 l (j:Int)).f0 l 0=(i:Int):=by
  have main:∀(l:List S76)(j o:Nat),j<l.length→∃i,i≤j∧elastic_find.go (rd_T76 l (j:Int)).f0 l o=((o+i:Nat):Int):=by
    intro l
    induction l with
    |nil=>intro j o h;exact absurd h (Nat.not_lt_zero _)
    |cons y l ih=>
      intro j o h
      by_cases c:y.f0.toList=(rd_T76 (y::l) (j:Int)).f0.toList
      · exact⟨0,Nat.zero_le _,by rw[elastic_find.go,if_pos c];rfl⟩
      · cases j with
        |zero=>exact absurd rfl c
        |succ j=>
          have e:rd_T76 (y::l) ((j+1:Nat):Int)=rd_T76 l (j:Int):=by unfold rd_T76;simp[List.getD_eq_getElem?_getD]
          obtain⟨i,hi,h2⟩:=ih j (o+1) (by simpa using h)
          refine⟨i+1,by omega,?_⟩
          rw[e]at c ⊢
          rw[elastic_find.go,if_neg c,h2]
          congr 1;omega
  obtain⟨i,h1,h2⟩:=main l j 0 h
  exact⟨i,h1,by rw[h2,Nat.zero_add]⟩
theorem own_nodup (l:List S76):own l 0↔(keysE l).Nodup:=by
  constructor
  · intro h
    unfold keysE
    rw[List.Nodup,List.pairwise_iff_getElem]
    intro i j hi hj hij e
    rw[List.length_map]at hi hj
    rw[List.getElem_map,List.getElem_map]at e
    have g1:=h i (Nat.zero_le _) hi
    have g2:=h j (Nat.zero_le _) hj
    have e1:rd_T76 l (i:Int)=l[i]:=by unfold rd_T76;rw[Int.toNat_natCast,List.getD_eq_getElem?_getD,List.getElem?_eq_getElem hi];rfl
    have e2:rd_T76 l (j:Int)=l[j]:=by unfold rd_T76;rw[Int.toNat_natCast,List.getD_eq_getElem?_getD,List.getElem?_eq_getElem hj];rfl
    rw[e1,e]at g1
    rw[e2,g1]at g2
    omega
  · intro h j _ hj
    rw[go_at l 0 j h hj,Nat.zero_add]
theorem fit_mem (l:List S76):fit l 0↔∀e∈l,1≤e.f1∧e.f1≤1099511627776:=by
  constructor
  · intro h e he
    obtain⟨j,hj,rfl⟩:=List.mem_iff_getElem.1 he
    have e1:rd_T76 l (j:Int)=l[j]:=by unfold rd_T76;rw[Int.toNat_natCast,List.getD_eq_getElem?_getD,List.getElem?_eq_getElem hj];rfl
    have:=h j (Nat.zero_le _) hj
    rwa[e1]at this
  · intro h j _ hj
    exact h _ (take76 l j hj).2
theorem okB_iff (r:Int)(y:S56):okB r y↔((y.f0.length:Int)≤r∧0≤y.f1∧y.f1≤1099511627776)∧fit y.f0 0∧own y.f0 0:=by
  rw[own_nodup,fit_mem]
  unfold okB
  exact⟨fun h=>⟨⟨h.1,h.2.1.1,h.2.1.2⟩,h.2.2.1,h.2.2.2⟩,fun h=>⟨h.1.1,⟨h.1.2.1,h.1.2.2⟩,h.2.1,h.2.2⟩⟩
theorem fit_step {l:List S76}{i:Nat}(hi:i<l.length):fit l i↔(1≤(rd_T76 l (i:Int)).f1∧(rd_T76 l (i:Int)).f1≤1099511627776)∧fit l (i+1):=
  ⟨fun h=>⟨h i (Nat.le_refl _) hi,fun j h1 h2=>h j (by omega) h2⟩,fun h j h1 h2=>by
    by_cases c:j=i
    · subst c;exact h.1
    · exact h.2 j (by omega) h2⟩
theorem own_step {l:List S76}{i:Nat}(hi:i<l.length):own l i↔elastic_find.go (rd_T76 l (i:Int)).f0 l 0=(i:Int)∧own l (i+1):=
  ⟨fun h=>⟨h i (Nat.le_refl _) hi,fun j h1 h2=>h j (by omega) h2⟩,fun h j h1 h2=>by
    by_cases c:j=i
    · subst c;exact h.1
    · exact h.2 j (by omega) h2⟩
theorem bright_spec (r:Int)(y:S56)(hl:y.f0.length≤20):∃b:Bool,(∀k,30≤k→elastic_Bucket_right.f k y.f0 y.f1 r=some b)∧(b=true↔okB r y):=by
  have main:∀(d i:Nat),i+d=y.f0.length→∃b:Bool,(∀k,d<k→elastic_Bucket_right.l0 k r y.f0 (y.f0.length:Int) (i:Int) y.f0 y.f1=some b)∧(b=true↔((y.f0.length:Int)≤r∧0≤y.f1∧y.f1≤1099511627776)∧fit y.f0 i∧own y.f0 i):=by
    intro d
    induction d with
    |zero=>
      intro i hi
      have h1:fit y.f0 i:=fun j _ _=>by omega
      have h2:own y.f0 i:=fun j _ _=>by omega
      refine⟨decide ((y.f0.length:Int)≤r∧0≤y.f1∧y.f1≤1099511627776),fun k hk=>?_,by rw[decide_eq_true_eq];exact⟨fun h=>⟨h,h1,h2⟩,fun h=>h.1⟩⟩
      obtain⟨k,rfl⟩:∃z,k=z+1:=⟨k-1,by omega⟩
      simp only[elastic_Bucket_right.l0]
      rw[if_neg (by omega)]
      by_cases c1:(y.f0.length:Int)≤r
      · rw[if_pos c1]
        by_cases c2:y.f1≥0
        · rw[if_pos c2];exact congrArg some (decide_eq_decide.2 ⟨fun h=>⟨c1,c2,h⟩,fun h=>h.2.2⟩)
        · rw[if_neg c2,decide_eq_false (fun h=>c2 h.2.1)]
      · rw[if_neg c1,decide_eq_false (fun h=>c1 h.1)]
    |succ d ih=>
      intro i hi
      have hi':i<y.f0.length:=by omega
      obtain⟨b,h1,h2⟩:=ih (i+1) (by omega)
      obtain⟨z,hz,hz2⟩:=go_self y.f0 i hi'
      rw[fit_step hi',own_step hi']
      have op:∀k,elastic_Bucket_right.l0 (k+1) r y.f0 (y.f0.length:Int) (i:Int) y.f0 y.f1=(if(rd_T76 y.f0 (i:Int)).f1<1 then some false else if(rd_T76 y.f0 (i:Int)).f1>1099511627776 then some false else if(z:Int)<(i:Int)then some false else elastic_Bucket_right.l0 k r y.f0 (y.f0.length:Int) ((i+1:Nat):Int) y.f0 y.f1):=by
        intro k
        simp only[elastic_Bucket_right.l0,elastic_find.f]
        rw[if_pos (by omega),if_pos (by omega),if_pos (by omega)]
        by_cases c1:(rd_T76 y.f0 (i:Int)).f1<1
        · rw[if_pos c1,if_pos c1]
        · rw[if_neg c1,if_neg c1]
          by_cases c2:(rd_T76 y.f0 (i:Int)).f1>1099511627776
          · rw[if_pos c2,if_pos c2]
          · rw[if_neg c2,if_neg c2,if_pos (by omega),Option.bind_some,hz2,i64_in ((i:Int)+1) (by omega) (by omega),show(i:Int)+1=((i+1:Nat):Int)by omega]
      have no:∀{q:Prop},¬q→(∀k,d+1<k→elastic_Bucket_right.l0 k r y.f0 (y.f0.length:Int) (i:Int) y.f0 y.f1=some false)→∃b:Bool,(∀k,d+1<k→elastic_Bucket_right.l0 k r y.f0 (y.f0.length:Int) (i:Int) y.f0 y.f1=some b)∧(b=true↔q):=fun hq h=>⟨false,h,⟨fun g=>(by cases g),fun g=>absurd g hq⟩⟩
      by_cases c1:(rd_T76 y.f0 (i:Int)).f1<1
      · exact no (fun h=>by omega) (fun k hk=>by obtain⟨k,rfl⟩:∃z,k=z+1:=⟨k-1,by omega⟩;rw[op,if_pos c1])
      · by_cases c2:(rd_T76 y.f0 (i:Int)).f1>1099511627776
        · exact no (fun h=>by omega) (fun k hk=>by obtain⟨k,rfl⟩:∃z,k=z+1:=⟨k-1,by omega⟩;rw[op,if_neg c1,if_pos c2])
        · by_cases c3:(z:Int)<(i:Int)
          · exact no (fun h=>by have:=h.2.2.1;omega) (fun k hk=>by obtain⟨k,rfl⟩:∃z,k=z+1:=⟨k-1,by omega⟩;rw[op,if_neg c1,if_neg c2,if_pos c3])
          · refine⟨b,fun k hk=>?_,h2.trans ⟨fun h=>⟨h.1,⟨⟨by omega,by omega⟩,h.2.1⟩,⟨by rw[hz2];omega,h.2.2⟩⟩,fun h=>⟨h.1,h.2.1.2,h.2.2.2⟩⟩⟩
            obtain⟨k,rfl⟩:∃z,k=z+1:=⟨k-1,by omega⟩
            rw[op,if_neg c1,if_neg c2,if_neg c3]
            exact h1 k (by omega)
  obtain⟨b,h1,h2⟩:=main y.f0.length 0 (by omega)
  exact⟨b,fun k hk=>h1 k (by omega),h2.trans (okB_iff r y).symm⟩
theorem any_spec (r:Int):∀B:List S56,(∀y∈B,y.f0.length≤20)→∃b:Bool,(∀k,30≤k→elastic_Bucket_44.any k r B=some b)∧(b=false↔∀y∈B,okB r y)
  |[],_=>⟨false,fun _ _=>rfl,⟨fun _ y hy=>(by cases hy),fun _=>rfl⟩⟩
  |y::B,h=>by
    obtain⟨b,h1,h2⟩:=any_spec r B (fun z hz=>h z (List.mem_cons_of_mem _ hz))
    obtain⟨c,h3,h4⟩:=bright_spec r y (h y List.mem_cons_self)
    have op:∀k,30≤k→elastic_Bucket_44.any k r (y::B)=(if c=true then some b else some true):=fun k hk=>by
      rw[elastic_Bucket_44.any,List.foldr_cons,←elastic_Bucket_44.any,h1 k hk,h3 k hk,Option.bind_some]
    rw[List.forall_mem_cons]
    cases c with
    |true=>exact⟨b,fun k hk=>(op k hk).trans (if_pos rfl),h2.trans ⟨fun g=>⟨h4.1 rfl,g⟩,fun g=>g.2⟩⟩
    |false=>exact⟨true,fun k hk=>(op k hk).trans (if_neg (by decide)),⟨fun g=>(by cases g),fun g=>absurd (h4.2 g.1) (by decide)⟩⟩
def okS (s r v:Int)(B:List S56)(H m:Int)(rows:List (List Int)):Prop:=(1≤r∧r≤8)∧(1≤v∧v≤64)∧(1≤B.length∧B.length≤256)∧rightL m rows∧H=hrow s 1∧m=255∧∀y∈B,okB r y
theorem eright_spec {s:Int}(h0:0≤s)(h1:s<18446744073709551616)(r v:Int)(B:List S56)(H m:Int)(rows:List (List Int))(hl:∀y∈B,y.f0.length≤20):∃b:Bool,(∀k,400≤k→elastic_Right.f k s r v B H m rows=some b)∧(b=true↔okS s r v B H m rows):=by
  obtain⟨c,h2,h3⟩:=any_spec r B hl
  have no:∀{q:Prop},¬q→(∀k,400≤k→elastic_Right.f k s r v B H m rows=some false)→∃b:Bool,(∀k,400≤k→elastic_Right.f k s r v B H m rows=some b)∧(b=true↔q):=fun hq h=>⟨false,h,⟨fun g=>(by cases g),fun g=>absurd g hq⟩⟩
  unfold okS
  by_cases c1:r≥1
  · by_cases c2:r≤8
    · by_cases c3:v≥1
      · by_cases c4:v≤64
        · by_cases c5:(B.length:Int)≥1
          · by_cases c6:(B.length:Int)≤256
            · by_cases c7:rightL m rows
              · by_cases c8:H=hrow s 1
                · by_cases c9:m=255
                  · refine⟨!c,fun k hk=>?_,?_⟩
                    · simp only[elastic_Right.f]
                      rw[if_pos c1,if_pos c2,if_pos c3,if_pos c4,if_pos c5,if_pos c6,right_spec k _ _ _ (by omega),decide_eq_true c7,Option.bind_some,if_pos rfl,row_spec s 1 h0 h1 (by decide),Option.bind_some,if_pos c8,if_pos c9]
                      unfold elastic_Bucket_44.f
                      rw[if_pos (by omega),h2 k (by omega)]
                      rfl
                    · rw[Bool.not_eq_true',h3]
                      exact⟨fun g=>⟨⟨c1,c2⟩,⟨c3,c4⟩,⟨by omega,by omega⟩,c7,c8,c9,g⟩,fun g=>g.2.2.2.2.2.2⟩
                  · exact no (fun g=>c9 g.2.2.2.2.2.1) (fun k hk=>by simp only[elastic_Right.f];rw[if_pos c1,if_pos c2,if_pos c3,if_pos c4,if_pos c5,if_pos c6,right_spec k _ _ _ (by omega),decide_eq_true c7,Option.bind_some,if_pos rfl,row_spec s 1 h0 h1 (by decide),Option.bind_some,if_pos c8,if_neg c9])
                · exact no (fun g=>c8 g.2.2.2.2.1) (fun k hk=>by simp only[elastic_Right.f];rw[if_pos c1,if_pos c2,if_pos c3,if_pos c4,if_pos c5,if_pos c6,right_spec k _ _ _ (by omega),decide_eq_true c7,Option.bind_some,if_pos rfl,row_spec s 1 h0 h1 (by decide),Option.bind_some,if_neg c8])
              · exact no (fun g=>c7 g.2.2.2.1) (fun k hk=>by simp only[elastic_Right.f];rw[if_pos c1,if_pos c2,if_pos c3,if_pos c4,if_pos c5,if_pos c6,right_spec k _ _ _ (by omega),decide_eq_false c7,Option.bind_some,if_neg (by decide)])
            · exact no (fun g=>by omega) (fun k hk=>by simp only[elastic_Right.f];rw[if_pos c1,if_pos c2,if_pos c3,if_pos c4,if_pos c5,if_neg c6])
          · exact no (fun g=>by omega) (fun k hk=>by simp only[elastic_Right.f];rw[if_pos c1,if_pos c2,if_pos c3,if_pos c4,if_neg c5])
        · exact no (fun g=>by omega) (fun k hk=>by simp only[elastic_Right.f];rw[if_pos c1,if_pos c2,if_pos c3,if_neg c4])
      · exact no (fun g=>by omega) (fun k hk=>by simp only[elastic_Right.f];rw[if_pos c1,if_pos c2,if_neg c3])
    · exact no (fun g=>by omega) (fun k hk=>by simp only[elastic_Right.f];rw[if_pos c1,if_neg c2])
  · exact no (fun g=>by omega) (fun k hk=>by simp only[elastic_Right.f];rw[if_neg c1])
theorem find7 (key:ByteArray):∀(l:List S76)(i:Nat),elastic_find.go key l i= -1∨∃j,j<l.length∧elastic_find.go key l i=((i+j:Nat):Int):=fun l i=>by
  rcases go_spec key l i with h|⟨j,h1,_,h2,_⟩
  · exact .inl h.2
  · exact .inr ⟨j,h1,h2⟩
theorem rat_spec (y:S56)(x:Int)(key:ByteArray)(hl:y.f0.length≤20):∀k,30≤k→rillmeterref15_At.f k (y.f0.map e7) x key=some (elastic_find.go key y.f0 0):=by
  have main:∀(d i k:Nat),i+d=y.f0.length→d<k→rillmeterref15_At.l0 k key (i:Int) (y.f0.map e7) x=some (elastic_find.go key (y.f0.drop i) i):=by
    intro d
    induction d with
    |zero=>
      intro i k hi hk
      obtain⟨k,rfl⟩:∃z,k=z+1:=⟨k-1,by omega⟩
      simp only[rillmeterref15_At.l0,List.length_map]
      rw[if_neg (by omega),List.drop_of_length_le (by omega)]
      rfl
    |succ d ih=>
      intro i k hi hk
      obtain⟨k,rfl⟩:∃z,k=z+1:=⟨k-1,by omega⟩
      have hi':i<y.f0.length:=by omega
      simp only[rillmeterref15_At.l0,List.length_map]
      rw[if_pos (by omega),if_pos (by omega),rd77 _ _ hi',List.drop_eq_getElem_cons hi',elastic_find.go,i64_in ((i:Int)+1) (by omega) (by omega),show(i:Int)+1=((i+1:Nat):Int)by omega,ih (i+1) k (by omega) (by omega)]
      have e1:rd_T76 y.f0 (i:Int)=y.f0[i]:=by unfold rd_T76;rw[Int.toNat_natCast,List.getD_eq_getElem?_getD,List.getElem?_eq_getElem hi'];rfl
      rw[e1]
      by_cases c:y.f0[i].f0.toList=key.toList
      · rw[if_pos c,if_pos (show(e7 y.f0[i]).f0.toList=key.toList from c)]
      · rw[if_neg c,if_neg (show¬(e7 y.f0[i]).f0.toList=key.toList from c)]
  intro k hk
  exact main y.f0.length 0 k (by omega) (by omega)
theorem rbucket (s r v H m:Int)(rows:List (List Int))(C:List S74)(i:Nat)(y:S56)(hl:y.f0.length≤20)(K:Nat)(b:Bool)(hb:∀k,K≤k→rillmeterref15_Right.l0 k ((i+1:Nat):Int) s r v C H m rows=some b)(hi:i≤300):∃c:Bool,(∀k,K+55≤k→rillmeterref15_Right.l1 k (i:Int) 0 s r v C H m rows (y.f0.map e7) y.f1=some c)∧(c=true↔fit y.f0 0∧own y.f0 0∧b=true):=by
  have main:∀(d j:Nat),j+d=y.f0.length→∃c:Bool,(∀k,K+d+31≤k→rillmeterref15_Right.l1 k (i:Int) (j:Int) s r v C H m rows (y.f0.map e7) y.f1=some c)∧(c=true↔fit y.f0 j∧own y.f0 j∧b=true):=by
    intro d
    induction d with
    |zero=>
      intro j hj
      refine⟨b,fun k hk=>?_,⟨fun h=>⟨fun q _ _=>by omega,fun q _ _=>by omega,h⟩,fun h=>h.2.2⟩⟩
      obtain⟨k,rfl⟩:∃z,k=z+1:=⟨k-1,by omega⟩
      simp only[rillmeterref15_Right.l1,List.length_map]
      rw[if_neg (by omega),i64_in ((i:Int)+1) (by omega) (by omega),show(i:Int)+1=((i+1:Nat):Int)by omega]
      exact hb k (by omega)
    |succ d ih=>
      intro j hj
      have hj':j<y.f0.length:=by omega
      obtain⟨c,h1,h2⟩:=ih (j+1) (by omega)
      rw[fit_step hj',own_step hj']
      have op:∀k,30≤k→rillmeterref15_Right.l1 (k+1) (i:Int) (j:Int) s r v C H m rows (y.f0.map e7) y.f1=(if(rd_T76 y.f0 (j:Int)).f1<1 then some false else if(rd_T76 y.f0 (j:Int)).f1>1099511627776 then some false else if elastic_find.go (rd_T76 y.f0 (j:Int)).f0 y.f0 0=(j:Int)then rillmeterref15_Right.l1 k (i:Int) ((j+1:Nat):Int) s r v C H m rows (y.f0.map e7) y.f1 else some false):=by
        intro k hk
        simp only[rillmeterref15_Right.l1,List.length_map]
        rw[if_pos (by omega),if_pos (by omega),rd77 _ _ hj',show(e7 (rd_T76 y.f0 (j:Int))).f1=(rd_T76 y.f0 (j:Int)).f1 from rfl,show(e7 (rd_T76 y.f0 (j:Int))).f0=(rd_T76 y.f0 (j:Int)).f0 from rfl,rat_spec y _ _ hl k hk,Option.bind_some,i64_in ((j:Int)+1) (by omega) (by omega),show(j:Int)+1=((j+1:Nat):Int)by omega]
      have no:∀{q:Prop},¬q→(∀k,K+(d+1)+31≤k→rillmeterref15_Right.l1 k (i:Int) (j:Int) s r v C H m rows (y.f0.map e7) y.f1=some false)→∃c:Bool,(∀k,K+(d+1)+31≤k→rillmeterref15_Right.l1 k (i:Int) (j:Int) s r v C H m rows (y.f0.map e7) y.f1=some c)∧(c=true↔q):=fun hq h=>⟨false,h,⟨fun g=>(by cases g),fun g=>absurd g hq⟩⟩
      by_cases c1:(rd_T76 y.f0 (j:Int)).f1<1
      · exact no (fun h=>by omega) (fun k hk=>by obtain⟨k,rfl⟩:∃z,k=z+1:=⟨k-1,by omega⟩;rw[op k (by omega),if_pos c1])
      · by_cases c2:(rd_T76 y.f0 (j:Int)).f1>1099511627776
        · exact no (fun h=>by omega) (fun k hk=>by obtain⟨k,rfl⟩:∃z,k=z+1:=⟨k-1,by omega⟩;rw[op k (by omega),if_neg c1,if_pos c2])
        · by_cases c3:elastic_find.go (rd_T76 y.f0 (j:Int)).f0 y.f0 0=(j:Int)
          · refine⟨c,fun k hk=>?_,h2.trans ⟨fun h=>⟨⟨⟨by omega,by omega⟩,h.1⟩,⟨c3,h.2.1⟩,h.2.2⟩,fun h=>⟨h.1.2,h.2.1.2,h.2.2⟩⟩⟩
            obtain⟨k,rfl⟩:∃z,k=z+1:=⟨k-1,by omega⟩
            rw[op k (by omega),if_neg c1,if_neg c2,if_pos c3]
            exact h1 k (by omega)
          · exact no (fun h=>c3 h.2.1.1) (fun k hk=>by obtain⟨k,rfl⟩:∃z,k=z+1:=⟨k-1,by omega⟩;rw[op k (by omega),if_neg c1,if_neg c2,if_neg c3])
  obtain⟨c,h1,h2⟩:=main y.f0.length 0 (by omega)
  exact⟨c,fun k hk=>h1 k (by omega),h2⟩
theorem rright_l0x (s r v H m:Int)(rows:List (List Int))(B:List S56)(hB:B.length≤300)(hl:∀y∈B,y.f0.length≤20):∀(d i:Nat),i+d=B.length→∃c:Bool,(∀k,d*60+60≤k→rillmeterref15_Right.l0 k (i:Int) s r v (B.map b7) H m rows=some c)∧(c=true↔∀y∈B.drop i,okB r y):=by
  intro d
  induction d with
  |zero=>
    intro i hi
    refine⟨true,fun k hk=>?_,⟨fun _ y hy=>?_,fun _=>rfl⟩⟩
    · obtain⟨k,rfl⟩:∃z,k=z+1:=⟨k-1,by omega⟩
      simp only[rillmeterref15_Right.l0,List.length_map]
      rw[if_neg (by omega)]
    · rw[List.drop_of_length_le (by omega)]at hy;cases hy
  |succ d ih=>
    intro i hi
    have hi':i<B.length:=by omega
    obtain⟨b,h1,h2⟩:=ih (i+1) (by omega)
    obtain⟨_,hm⟩:=take56 B i hi'
    have e1:rd_T56 B (i:Int)=B[i]:=by unfold rd_T56;rw[Int.toNat_natCast,List.getD_eq_getElem?_getD,List.getElem?_eq_getElem hi'];rfl
    rw[e1]at hm
    obtain⟨y,hy⟩:∃y,y=B[i]:=⟨_,rfl⟩
    rw[←hy]at hm e1
    obtain⟨c,h3,h4⟩:=rbucket s r v H m rows (B.map b7) i y (hl y hm) (d*60+60) b h1 (by omega)
    rw[List.drop_eq_getElem_cons hi',List.forall_mem_cons,←hy,okB_iff]
    have op:∀k,5≤k→rillmeterref15_Right.l0 (k+2) (i:Int) s r v (B.map b7) H m rows=(if(y.f0.length:Int)>r then some false else if y.f1<0 then some false else if y.f1>1099511627776 then some false else rillmeterref15_Right.l1 k (i:Int) 0 s r v (B.map b7) H m rows (y.f0.map e7) y.f1):=by
      intro k hk
      simp only[rillmeterref15_Right.l0,rillmeterref15_Right.j3,List.length_map]
      rw[if_pos (by omega),if_pos (by omega),rd74 _ _ hi',e1,show(b7 y).f0=y.f0.map e7 from rfl,show(b7 y).f1=y.f1 from rfl,List.length_map]
      by_cases c1:(y.f0.length:Int)>r
      · rw[if_pos c1,if_pos c1,if_pos trivial]
      · rw[if_neg c1,if_neg c1]
        by_cases c2:y.f1<0
        · rw[if_pos c2,if_pos c2,if_pos trivial]
        · rw[if_neg c2,if_neg c2]
          by_cases c3:y.f1>1099511627776
          · rw[if_pos c3,if_pos (decide_eq_true c3)]
          · rw[if_neg c3,if_neg (by rw[decide_eq_false c3];decide)]
    have no:∀{q:Prop},¬q→(∀k,(d+1)*60+60≤k→rillmeterref15_Right.l0 k (i:Int) s r v (B.map b7) H m rows=some false)→∃c:Bool,(∀k,(d+1)*60+60≤k→rillmeterref15_Right.l0 k (i:Int) s r v (B.map b7) H m rows=some c)∧(c=true↔q):=fun hq h=>⟨false,h,⟨fun g=>(by cases g),fun g=>absurd g hq⟩⟩
    by_cases c1:(y.f0.length:Int)>r
    · exact no (fun h=>by omega) (fun k hk=>by obtain⟨k,rfl⟩:∃z,k=z+2:=⟨k-2,by omega⟩;rw[op k (by omega),if_pos c1])
    · by_cases c2:y.f1<0
      · exact no (fun h=>by omega) (fun k hk=>by obtain⟨k,rfl⟩:∃z,k=z+2:=⟨k-2,by omega⟩;rw[op k (by omega),if_neg c1,if_pos c2])
      · by_cases c3:y.f1>1099511627776
        · exact no (fun h=>by omega) (fun k hk=>by obtain⟨k,rfl⟩:∃z,k=z+2:=⟨k-2,by omega⟩;rw[op k (by omega),if_neg c1,if_neg c2,if_pos c3])
        · refine⟨c,fun k hk=>?_,h4.trans ⟨fun h=>⟨⟨⟨by omega,by omega,by omega⟩,h.1,h.2.1⟩,h2.1 h.2.2⟩,fun h=>⟨h.1.2.1,h.1.2.2,h2.2 h.2⟩⟩⟩
          obtain⟨k,rfl⟩:∃z,k=z+2:=⟨k-2,by omega⟩
          rw[op k (by omega),if_neg c1,if_neg c2,if_neg c3]
          exact h3 k (by omega)
theorem rright15_spec {s:Int}(h0:0≤s)(r v:Int)(B:List S56)(H m:Int)(rows:List (List Int))(hB:B.length≤300)(hl:∀y∈B,y.f0.length≤20):∃b:Bool,(∀k,30000≤k→rillmeterref15_Right.f k s r v (B.map b7) H m rows=some b)∧(b=true↔okS s r v B H m rows):=by
  obtain⟨c,h2,h3⟩:=rright_l0x s r v H m rows B hB hl B.length 0 (by omega)
  rw[List.drop_zero]at h3
  have no:∀{q:Prop},¬q→(∀k,30000≤k→rillmeterref15_Right.f k s r v (B.map b7) H m rows=some false)→∃b:Bool,(∀k,30000≤k→rillmeterref15_Right.f k s r v (B.map b7) H m rows=some b)∧(b=true↔q):=fun hq h=>⟨false,h,⟨fun g=>(by cases g),fun g=>absurd g hq⟩⟩
  have jt:∀k,rillmeterref15_Right.j0 (k+1) true s r v (B.map b7) H m rows=some false:=fun k=>by simp only[rillmeterref15_Right.j0];rw[if_pos trivial]
  have kt:∀k,rillmeterref15_Right.j1 (k+1) true s r v (B.map b7) H m rows=some false:=fun k=>by simp only[rillmeterref15_Right.j1];rw[if_pos trivial]
  unfold okS
  by_cases c1:r<1
  · exact no (fun g=>by omega) (fun k hk=>by obtain⟨k,rfl⟩:∃z,k=z+1:=⟨k-1,by omega⟩;unfold rillmeterref15_Right.f;rw[if_pos c1,jt])
  · by_cases c2:r>8
    · exact no (fun g=>by omega) (fun k hk=>by obtain⟨k,rfl⟩:∃z,k=z+1:=⟨k-1,by omega⟩;unfold rillmeterref15_Right.f;rw[if_neg c1,if_pos c2,jt])
    · by_cases c3:v<1
      · exact no (fun g=>by omega) (fun k hk=>by obtain⟨k,rfl⟩:∃z,k=z+1:=⟨k-1,by omega⟩;unfold rillmeterref15_Right.f;rw[if_neg c1,if_neg c2,if_pos c3,jt])
      · by_cases c4:v>64
        · exact no (fun g=>by omega) (fun k hk=>by obtain⟨k,rfl⟩:∃z,k=z+1:=⟨k-1,by omega⟩;unfold rillmeterref15_Right.f;rw[if_neg c1,if_neg c2,if_neg c3,if_pos c4,jt])
        · by_cases c5:B.length=0
          · exact no (fun g=>by omega) (fun k hk=>by obtain⟨k,rfl⟩:∃z,k=z+1:=⟨k-1,by omega⟩;unfold rillmeterref15_Right.f;rw[if_neg c1,if_neg c2,if_neg c3,if_neg c4,if_pos (by rw[List.length_map];omega),jt])
          · have hd:∀k,rillmeterref15_Right.f k s r v (B.map b7) H m rows=rillmeterref15_Right.j0 k (decide ((B.length:Int)>256)) s r v (B.map b7) H m rows:=fun k=>by
              unfold rillmeterref15_Right.f;rw[if_neg c1,if_neg c2,if_neg c3,if_neg c4,if_neg (by rw[List.length_map];omega),List.length_map]
            by_cases c6:(B.length:Int)>256
            · exact no (fun g=>by omega) (fun k hk=>by obtain⟨k,rfl⟩:∃z,k=z+1:=⟨k-1,by omega⟩;rw[hd,decide_eq_true c6,jt])
            · have hj:∀k,20000≤k→rillmeterref15_Right.f (k+1) s r v (B.map b7) H m rows=(if rightL m rows then(if m=255 then rillmeterref15_Right.j1 k (H != hrow s 1) s r v (B.map b7) H m rows else rillmeterref15_Right.j1 k true s r v (B.map b7) H m rows)else rillmeterref15_Right.j1 k true s r v (B.map b7) H m rows):=fun k hk=>by
                rw[hd,decide_eq_false c6]
                simp only[rillmeterref15_Right.j0]
                rw[if_neg (by decide),rright_spec k H m rows (by omega),Option.bind_some]
                by_cases c7:rightL m rows
                · rw[if_pos c7,if_pos (decide_eq_true c7),rrow_spec k s 1 h0 (by decide) (by omega),Option.bind_some]
                · rw[if_neg c7,if_neg (by rw[decide_eq_false c7];decide)]
              by_cases c7:rightL m rows
              · by_cases c9:m=255
                · by_cases c8:H=hrow s 1
                  · refine⟨c,fun k hk=>?_,h3.trans ⟨fun g=>⟨⟨by omega,by omega⟩,⟨by omega,by omega⟩,⟨by omega,by omega⟩,c7,c8,c9,g⟩,fun g=>g.2.2.2.2.2.2⟩⟩
                    obtain⟨k,rfl⟩:∃z,k=z+2:=⟨k-2,by omega⟩
                    rw[hj (k+1) (by omega),if_pos c7,if_pos c9,show(H != hrow s 1)=false from bne_eq_false_iff_eq.2 c8]
                    simp only[rillmeterref15_Right.j1]
                    rw[if_neg (by decide)]
                    exact h2 k (by omega)
                  · exact no (fun g=>c8 g.2.2.2.2.1) (fun k hk=>by obtain⟨k,rfl⟩:∃z,k=z+2:=⟨k-2,by omega⟩;rw[hj (k+1) (by omega),if_pos c7,if_pos c9,show(H != hrow s 1)=true from bne_iff_ne.2 c8,kt])
                · exact no (fun g=>c9 g.2.2.2.2.2.1) (fun k hk=>by obtain⟨k,rfl⟩:∃z,k=z+2:=⟨k-2,by omega⟩;rw[hj (k+1) (by omega),if_pos c7,if_neg c9,kt])
              · exact no (fun g=>c7 g.2.2.2.1) (fun k hk=>by obtain⟨k,rfl⟩:∃z,k=z+2:=⟨k-2,by omega⟩;rw[hj (k+1) (by omega),if_neg c7,kt])
theorem bucket_spec {s:Int}(h0:0≤s)(h1:s<18446744073709551616)(r v:Int)(B:List S56)(hB:B.length≤256)(hB1:1≤B.length)(H m:Int)(rows:List (List Int))(key:ByteArray)(hk:key.size≤1000)(k:Nat)(hk2:2000≤k):elastic_bucket.f k s r v B H m rows key=some (placeOf s B.length key:Int):=by
  have hw:=words_le key 250 (by omega)
  have hr:=hrow_range s 0
  simp only[elastic_bucket.f]
  rw[row_spec s 0 h0 h1 (by decide),Option.bind_some,cell_spec k (hrow s 0) key B.length (by omega) hr.1 (by omega) (by omega) (by omega),Option.bind_some,(place_lt s B.length key hB1).2]
theorem rplace_spec {s:Int}(h0:0≤s)(r v:Int)(C:List S74)(hB:C.length≤300)(hB1:1≤C.length)(H m:Int)(rows:List (List Int))(key:ByteArray)(hk:key.size≤1000)(k:Nat)(hk2:2000≤k):rillmeterref15_Place.f k s r v C H m rows key=some (placeOf s C.length key:Int):=by
  have hw:=words_le key 250 (by omega)
  have hr:=hrow_range s 0
  unfold rillmeterref15_Place.f
  rw[rrow_spec k s 0 h0 (by decide) (by omega),Option.bind_some,rcell_spec k (hrow s 0) key C.length (by omega) hr.1 (by omega) (by omega),Option.bind_some,(place_lt s C.length key hB1).2]
def telG (y:S56)(t n:Int):Int × Int × Bool × Bool:=if t≥0 then(if(rd_T76 y.f0 t).f2=true then((rd_T76 y.f0 t).f1,wrap64 ((rd_T76 y.f0 t).f1+n),n==0,n==255)else((rd_T76 y.f0 t).f1,(rd_T76 y.f0 t).f1,true,false))else(0,wrap64 (0+n),n==0,n==255)
def tel (s:Int)(B:List S56)(H:Int)(rows:List (List Int))(key:ByteArray):Int × Int × Bool × Bool:=telG (rd_T56 B (placeOf s B.length key:Int)) (elastic_find.go key (rd_T56 B (placeOf s B.length key:Int)).f0 0) (getL H 255 key rows)
theorem okS.rd {s r v:Int}{B:List S56}{H m:Int}{rows:List (List Int)}(h:okS s r v B H m rows)(key:ByteArray):placeOf s B.length key<B.length∧okB r (rd_T56 B (placeOf s B.length key:Int)):=by
  have hp:=(place_lt s B.length key h.2.2.1.1).1
  exact⟨hp,h.2.2.2.2.2.2 _ (take56 B _ hp).2⟩
theorem eget_spec {s r v:Int}{B:List S56}{H m:Int}{rows:List (List Int)}(h0:0≤s)(h1:s<18446744073709551616)(h:okS s r v B H m rows)(hr:∀k,400≤k→elastic_Right.f k s r v B H m rows=some true)(key:ByteArray)(hk:key.size≤1000):∀k,3000≤k→elastic_Get.f k s r v B H m rows key=some (tel s B H rows key):=by
  intro k hk2
  obtain⟨hp,hy⟩:=h.rd key
  have hm:=h.2.2.2.2.2.1
  subst hm
  have hH:=hrow_range s 1
  have hg:=getL_range H 255 key rows h.2.2.2.1
  have e3:(!decide (getL H 255 key rows<255))=(getL H 255 key rows==255):=by
    by_cases c:getL H 255 key rows=255
    · rw[decide_eq_false (by omega),beq_iff_eq.2 c];rfl
    · rw[decide_eq_true (by omega),beq_eq_false_iff_ne.2 c];rfl
  have hl:=h.2.2.1.2
  have hH2:=h.2.2.2.2.1
  unfold elastic_Get.f tel
  rw[hr k (by omega),Option.bind_some,if_pos rfl,bucket_spec h0 h1 r v B (by omega) h.2.2.1.1 H 255 rows key hk k (by omega),Option.bind_some,if_pos (by omega),if_pos (by omega)]
  generalize rd_T56 B (placeOf s B.length key:Int)=y at *
  have hy1:=hy.1
  have hr8:=h.1.2
  unfold elastic_find.f telG
  rw[if_pos (by omega),Option.bind_some,getf_spec k H 255 key rows (by omega) (by omega) hk (by omega),if_pos h.2.2.2.1]
  rcases find7 key y.f0 0 with c|⟨j,hj,c⟩
  · rw[c,if_neg (by decide),if_neg (by decide),Option.bind_some,e3]
  · rw[c,Nat.zero_add,if_pos (by omega),if_pos (by omega),if_pos (by omega),if_pos (show((j:Nat):Int)≥0 by omega)]
    by_cases d:(rd_T76 y.f0 (j:Int)).f2=true
    · rw[if_pos d,if_pos d,Option.bind_some,e3]
    · rw[if_neg d,if_neg d]
theorem rget_spec {s r v:Int}{B:List S56}{H m:Int}{rows:List (List Int)}(h0:0≤s)(h:okS s r v B H m rows)(key:ByteArray)(hk:key.size≤1000):∀k,3000≤k→rillmeterref15_Get.f k s r v (B.map b7) H m rows key=some (tel s B H rows key):=by
  intro k hk2
  obtain⟨hp,hy⟩:=h.rd key
  have hm:=h.2.2.2.2.2.1
  subst hm
  have hH:=hrow_range s 1
  have hl:=h.2.2.1.2
  have hH2:=h.2.2.2.2.1
  have hl1:=h.2.2.1.1
  unfold rillmeterref15_Get.f tel
  rw[rplace_spec h0 r v (B.map b7) (by rw[List.length_map];omega) (by rw[List.length_map];omega) H 255 rows key hk k (by omega),Option.bind_some,List.length_map,if_pos (by omega),if_pos (by omega),rd74 _ _ hp]
  generalize rd_T56 B (placeOf s B.length key:Int)=y at *
  have hy1:=hy.1
  have hr8:=h.1.2
  rw[show(b7 y).f0=y.f0.map e7 from rfl,show(b7 y).f1=y.f1 from rfl,rat_spec y y.f1 key (by omega) k (by omega),Option.bind_some,List.length_map,rgetf_spec k H 255 key rows (by omega) h.2.2.2.1 hk (by omega)]
  unfold telG
  rcases find7 key y.f0 0 with c|⟨j,hj,c⟩
  · rw[c,if_neg (by decide),if_neg (by decide),Option.bind_some]
  · rw[c,Nat.zero_add,if_pos (by omega),if_pos (by omega),if_pos (by omega),rd77 _ _ hj,show(e7 (rd_T76 y.f0 (j:Int))).f2=(rd_T76 y.f0 (j:Int)).f2 from rfl,show(e7 (rd_T76 y.f0 (j:Int))).f1=(rd_T76 y.f0 (j:Int)).f1 from rfl]
    by_cases d:(rd_T76 y.f0 (j:Int)).f2=true
    · rw[if_pos d,if_pos (show((j:Nat):Int)≥0 by omega),if_pos d];rfl
    · rw[if_neg d,if_pos (show((j:Nat):Int)≥0 by omega),if_neg d]
def lowF (l:List S76):Nat→Nat→Nat→Nat
  |0,_,low=>low
  |d+1,i,low=>lowF l d (i+1) (if(rd_T76 l (i:Int)).f1<(rd_T76 l (low:Int)).f1 then i else low)
theorem lowF_lt (l:List S76):∀(d i low:Nat),i+d=l.length→low<l.length→lowF l d i low<l.length
  |0,_,_,_,h=>h
  |d+1,i,low,h1,h2=>by
    unfold lowF
    refine lowF_lt l d (i+1) _ (by omega) ?_
    split<;>omega
def vot (v:Int)(y:S56)(H:Int)(rows:List (List Int))(key:ByteArray):S56 × List (List Int):=
  if y.f1+1<v*(rd_T76 y.f0 (lowF y.f0 y.f0.length 0 0:Int)).f1 then(⟨y.f0,y.f1+1⟩,addRows H 255 key 1 rows)
  else(⟨y.f0.set (lowF y.f0 y.f0.length 0 0) ⟨key,1,true⟩,0⟩,addRows H 255 (rd_T76 y.f0 (lowF y.f0 y.f0.length 0 0:Int)).f0 (rd_T76 y.f0 (lowF y.f0 y.f0.length 0 0:Int)).f1 rows)
theorem evote_spec {v H:Int}(hH0:0≤H)(hH1:H<18446744073709551616)(hv:1≤v∧v≤64)(s r:Int)(B:List S56){rows:List (List Int)}(hR:rightL 255 rows)(y:S56)(hy:okB r y)(hl:y.f0.length≤20)(hl1:1≤y.f0.length)(key:ByteArray)(hk:key.size≤1000)(hks:∀e∈y.f0,e.f0.size≤1000)(hM:y.f1<1099511627776):∀k,3000≤k→elastic_vote.f k s r v B H 255 rows y.f0 (y.f1+1) key=some ((vot v y H rows key).1.f0,(vot v y H rows key).1.f1,H,255,(vot v y H rows key).2):=by
  have main:∀(d i low k z:Nat),lowF y.f0 d i low=z→i+d=y.f0.length→low<y.f0.length→d+2200≤k→elastic_vote.l0 k key (low:Int) y.f0 (y.f0.length:Int) (i:Int) s r v B H 255 rows y.f0 (y.f1+1)=(if y.f1+1<v*(rd_T76 y.f0 (z:Int)).f1 then some (y.f0,y.f1+1,H,255,addRows H 255 key 1 rows)else some (y.f0.set z ⟨key,1,true⟩,0,H,255,addRows H 255 (rd_T76 y.f0 (z:Int)).f0 (rd_T76 y.f0 (z:Int)).f1 rows)):=by
    intro d
    induction d with
    |zero=>
      intro i low k z hz hi hlow hk2
      obtain⟨k,rfl⟩:∃z,k=z+1:=⟨k-1,by omega⟩
      have hm:=(take76 y.f0 low hlow).2
      have hv1:=hy.2.2.1 _ hm
      have hb:v*(rd_T76 y.f0 (low:Int)).f1≤64*1099511627776:=Int.mul_le_mul hv.2 hv1.2 (by omega) (by decide)
      have hb0:0≤v*(rd_T76 y.f0 (low:Int)).f1:=Int.mul_nonneg (by omega) (by omega)
      subst hz
      simp only[elastic_vote.l0,lowF]
      rw[if_neg (by omega),if_pos (by omega),if_pos (by omega),i64_in _ (by omega) (by omega)]
      by_cases c:y.f1+1<v*(rd_T76 y.f0 (low:Int)).f1
      · rw[if_pos c,addf_spec k H 255 1 key rows hH0 hH1 hk (by omega),if_pos ⟨hR,by decide,by decide⟩,Option.bind_some];exact(if_pos c).symm
      · rw[if_neg c,addf_spec k H 255 _ _ rows hH0 hH1 (hks _ hm) (by omega),if_pos ⟨hR,by omega,by omega⟩,Option.bind_some,Int.toNat_natCast];exact(if_neg c).symm
    |succ d ih=>
      intro i low k z hz hi hlow hk2
      obtain⟨k,rfl⟩:∃z,k=z+1:=⟨k-1,by omega⟩
      simp only[elastic_vote.l0]
      unfold lowF at hz
      rw[if_pos (by omega),if_pos (by omega),if_pos (by omega),if_pos (by omega),if_pos (by omega),i64_in ((i:Int)+1) (by omega) (by omega),show(i:Int)+1=((i+1:Nat):Int)by omega]
      by_cases c:(rd_T76 y.f0 (i:Int)).f1<(rd_T76 y.f0 (low:Int)).f1
      · rw[if_pos c]at hz ⊢;exact ih (i+1) i k z hz (by omega) (by omega) (by omega)
      · rw[if_neg c]at hz ⊢;exact ih (i+1) low k z hz (by omega) hlow (by omega)
  intro k hk2
  have h:=main y.f0.length 0 0 k _ rfl (by omega) (by omega) (by omega)
  unfold elastic_vote.f vot
  refine h.trans ?_
  split<;>rfl
def AddR (s r v:Int)(B:List S56)(H:Int)(rows:List (List Int))(key:ByteArray):Option (List S56 × List (List Int)):=
  let p:=placeOf s B.length key
  let y:=rd_T56 B (p:Int)
  let t:=elastic_find.go key y.f0 0
  if t≥0 then(if(rd_T76 y.f0 t).f1=1099511627776 then none else some (B.set p ⟨y.f0.set t.toNat ⟨(rd_T76 y.f0 t).f0,(rd_T76 y.f0 t).f1+1,(rd_T76 y.f0 t).f2⟩,y.f1⟩,rows))
  else if(y.f0.length:Int)<r then some (B.set p ⟨y.f0++[⟨key,1,false⟩],y.f1⟩,rows)
  else if y.f1=1099511627776 then none
  else some (B.set p (vot v y H rows key).1,(vot v y H rows key).2)
def eRes (s r v H:Int):Option (List S56 × List (List Int))→Int × Int × Int × List S56 × Int × Int × List (List Int) × Int
  |none=>(0,0,0,[],0,0,[],5)
  |some x=>(s,r,v,x.1,H,255,x.2,0)
theorem eadd_spec {s r v:Int}{B:List S56}{H m:Int}{rows:List (List Int)}(h0:0≤s)(h1:s<18446744073709551616)(h:okS s r v B H m rows)(hr:∀k,400≤k→elastic_Right.f k s r v B H m rows=some true)(key:ByteArray)(hk:key.size≤1000)(hks:∀y∈B,∀e∈y.f0,e.f0.size≤1000):∀k,4000≤k→elastic_Add.f k s r v B H m rows key=some (eRes s r v H (AddR s r v B H rows key)):=by
  intro k hk2
  obtain⟨hp,hy⟩:=h.rd key
  have hks:=hks _ (take56 B _ hp).2
  have hm:=h.2.2.2.2.2.1
  subst hm
  have hH:=hrow_range s 1
  have hl:=h.2.2.1.2
  have hH2:=h.2.2.2.2.1
  obtain⟨k,rfl⟩:∃z,k=z+1:=⟨k-1,by omega⟩
  unfold elastic_Add.f AddR
  rw[hr _ (by omega),Option.bind_some,if_pos rfl,bucket_spec h0 h1 r v B (by omega) h.2.2.1.1 H 255 rows key hk _ (by omega),Option.bind_some,if_pos (by omega),if_pos (by omega)]
  simp only
  generalize placeOf s B.length key=p at *
  generalize rd_T56 B (p:Int)=y at *
  have hy1:=hy.1
  have hr8:=h.1.2
  rw[lst_entry y.f0 (by omega),Option.bind_some]
  simp only[elastic_find.f,elastic_Add.j0]
  rw[if_pos (by omega),Option.bind_some,lst_bucket B hl]
  rcases find7 key y.f0 0 with c|⟨j,hj,c⟩
  · have n1:¬((-1:Int)≥0):=by decide
    rw[c]
    simp only[if_neg n1]
    rw[if_neg (show¬(false=true)by decide)]
    by_cases d:(y.f0.length:Int)<r
    · rw[if_pos d,if_pos d,if_pos (by omega),Option.bind_some,if_pos (by omega),if_pos (by omega),Int.toNat_natCast];rfl
    · rw[if_neg d,if_neg d]
      by_cases e:y.f1=1099511627776
      · rw[if_pos e,if_pos e];rfl
      · have hy2:=hy.2.1
        have hr1:=h.1.1
        rw[if_neg e,if_neg e,i64_in (y.f1+1) (by omega) (by omega),evote_spec (by omega) (by omega) h.2.1 s r B h.2.2.2.1 y hy (by omega) (by omega) key hk hks (by omega) k (by omega),Option.bind_some,Option.bind_some,if_pos (by omega),if_pos (by omega),Int.toNat_natCast];rfl
  · have hm:=(take76 y.f0 j hj).2
    have hv1:=hy.2.2.1 _ hm
    have n1:(j:Int)≥0:=by omega
    rw[c,Nat.zero_add]
    have n2:(0:Int)≤(j:Int):=n1
    have n3:(j:Int)<(y.f0.length:Int):=by omega
    simp only[if_pos n1,if_pos n2,if_pos n3]
    by_cases d:(rd_T76 y.f0 (j:Int)).f1=1099511627776
    · rw[if_pos (beq_iff_eq.2 d),if_pos d];rfl
    · rw[if_neg (by rw[beq_eq_false_iff_ne.2 d];decide),if_neg d,Option.bind_some,if_pos (by omega),if_pos (by omega),Int.toNat_natCast,Int.toNat_natCast,i64_in _ (by omega) (by omega)];rfl
theorem rdset76 (l:List S76)(j i:Nat)(x:S76)(hi:i<l.length):rd_T76 (l.set j x) (i:Int)=if i=j then x else rd_T76 l (i:Int):=by
  unfold rd_T76
  rw[Int.toNat_natCast,List.getD_eq_getElem?_getD,List.getD_eq_getElem?_getD,List.getElem?_set]
  by_cases c:j=i
  · rw[if_pos c,if_pos c.symm,if_pos (by omega)];rfl
  · rw[if_neg c,if_neg (fun g=>c g.symm)]
theorem rdset56 (l:List S56)(j i:Nat)(x:S56)(hi:i<l.length):rd_T56 (l.set j x) (i:Int)=if i=j then x else rd_T56 l (i:Int):=by
  unfold rd_T56
  rw[Int.toNat_natCast,List.getD_eq_getElem?_getD,List.getD_eq_getElem?_getD,List.getElem?_set]
  by_cases c:j=i
  · rw[if_pos c,if_pos c.symm,if_pos (by omega)];rfl
  · rw[if_neg c,if_neg (fun g=>c g.symm)]
theorem rput_spec (l:List S76)(j:Nat)(x:S76)(hl:l.length≤300):∀k,400≤k→rillmeterref15_put.f k (l.map e7) (j:Int) x.f0 x.f1 x.f2=some ((l.set j x).map e7):=by
  have main:∀(d i k:Nat),i+d=l.length→d+5≤k→rillmeterref15_put.l0 k (l.map e7) (j:Int) (((l.set j x).take i).map e7) (i:Int) x.f0 x.f1 x.f2=some ((l.set j x).map e7):=by
    intro d
    induction d with
    |zero=>
      intro i k hi hk
      obtain⟨k,rfl⟩:∃z,k=z+1:=⟨k-1,by omega⟩
      simp only[rillmeterref15_put.l0]
      rw[List.length_map,if_neg (by omega),List.take_of_length_le (by rw[List.length_set];omega)]
    |succ d ih=>
      intro i k hi hk
      obtain⟨k,rfl⟩:∃z,k=z+1:=⟨k-1,by omega⟩
      have h:=ih (i+1) k (by omega) (by omega)
      rw[(take76 (l.set j x) i (by rw[List.length_set];omega)).1,List.map_append,List.map_singleton,rdset76 l j i x (by omega)]at h
      have hc:(((l.set j x).take i).map e7).length<4398046511104:=by rw[List.length_map,List.length_take];omega
      simp only[rillmeterref15_put.l0]
      rw[List.length_map,if_pos (by omega),i64_in ((i:Int)+1) (by omega) (by omega),show(i:Int)+1=((i+1:Nat):Int)by omega,rd77 l i (by omega)]
      by_cases c:i=j
      · rw[if_pos (by omega),if_pos hc];rw[if_pos c]at h;exact h
      · rw[if_neg (by omega),if_pos (by omega),if_pos hc];rw[if_neg c]at h;exact h
  intro k hk
  exact main l.length 0 k (by omega) (by omega)
theorem rj1_spec (B:List S56)(p:Nat)(y:S56)(hl:B.length≤300)(s r v H m:Int)(rows:List (List Int)):∀k,400≤k→rillmeterref15_Add.j1 k (p:Int) s r v (B.map b7) H m rows (y.f0.map e7) y.f1=some (s,r,v,(B.set p y).map b7,H,m,rows,true):=by
  have main:∀(d i k:Nat),i+d=B.length→d+5≤k→rillmeterref15_Add.l1 k (p:Int) (((B.set p y).take i).map b7) (i:Int) s r v (B.map b7) H m rows (y.f0.map e7) y.f1=some (s,r,v,(B.set p y).map b7,H,m,rows,true):=by
    intro d
    induction d with
    |zero=>
      intro i k hi hk
      obtain⟨k,rfl⟩:∃z,k=z+1:=⟨k-1,by omega⟩
      simp only[rillmeterref15_Add.l1]
      rw[List.length_map,if_neg (by omega),List.take_of_length_le (by rw[List.length_set];omega)]
    |succ d ih=>
      intro i k hi hk
      obtain⟨k,rfl⟩:∃z,k=z+1:=⟨k-1,by omega⟩
      have h:=ih (i+1) k (by omega) (by omega)
      rw[(take56 (B.set p y) i (by rw[List.length_set];omega)).1,List.map_append,List.map_singleton,rdset56 B p i y (by omega)]at h
      have hc:(((B.set p y).take i).map b7).length<4398046511104:=by rw[List.length_map,List.length_take];omega
      simp only[rillmeterref15_Add.l1]
      rw[List.length_map,if_pos (by omega),i64_in ((i:Int)+1) (by omega) (by omega),show(i:Int)+1=((i+1:Nat):Int)by omega,rd74 B i (by omega)]
      by_cases c:i=p
      · rw[if_pos (by omega),if_pos hc];rw[if_pos c]at h;exact h
      · rw[if_neg (by omega),if_pos (by omega),if_pos hc];rw[if_neg c]at h;exact h
  intro k hk
  obtain⟨k,rfl⟩:∃z,k=z+1:=⟨k-1,by omega⟩
  simp only[rillmeterref15_Add.j1]
  exact main B.length 0 k (by omega) (by omega)
theorem rvote_spec {v H:Int}(hH0:0≤H)(hv:1≤v∧v≤64)(s r:Int)(B:List S56)(hB:B.length≤256)(p:Nat){rows:List (List Int)}(hR:rightL 255 rows)(y:S56)(hy:okB r y)(hl:y.f0.length≤20)(key:ByteArray)(hk:key.size≤1000)(hks:∀e∈y.f0,e.f0.size≤1000):∀(d i low k z:Nat),lowF y.f0 d i low=z→i+d=y.f0.length→low<y.f0.length→d+3000≤k→rillmeterref15_Add.l0 k key (p:Int) (y.f0.map e7) (y.f0.length:Int) (i:Int) s r v (B.map b7) H 255 rows (y.f0.map e7) (y.f1+1) (rd_T76 y.f0 (low:Int)).f0 (rd_T76 y.f0 (low:Int)).f1 (rd_T76 y.f0 (low:Int)).f2=(if y.f1+1<v*(rd_T76 y.f0 (z:Int)).f1 then some (s,r,v,(B.set p ⟨y.f0,y.f1+1⟩).map b7,H,255,addRows H 255 key 1 rows,true)else some (s,r,v,(B.set p ⟨y.f0.set z ⟨key,1,true⟩,0⟩).map b7,H,255,addRows H 255 (rd_T76 y.f0 (z:Int)).f0 (rd_T76 y.f0 (z:Int)).f1 rows,true)):=by
  intro d
  induction d with
  |zero=>
    intro i low k z hz hi hlow hk2
    obtain⟨k,rfl⟩:∃z,k=z+1:=⟨k-1,by omega⟩
    have hm:=(take76 y.f0 low hlow).2
    have hv1:=hy.2.2.1 _ hm
    have hb:v*(rd_T76 y.f0 (low:Int)).f1≤64*1099511627776:=Int.mul_le_mul hv.2 hv1.2 (by omega) (by decide)
    have hb0:0≤v*(rd_T76 y.f0 (low:Int)).f1:=Int.mul_nonneg (by omega) (by omega)
    have hg:=go_at y.f0 0 low hy.2.2.2 hlow
    rw[Nat.zero_add]at hg
    have hp:=rput_spec y.f0 low ⟨key,1,true⟩ (by omega) k (by omega)
    have h1:=rj1_spec B p ⟨y.f0,y.f1+1⟩ (by omega) s r v H 255 (addRows H 255 key 1 rows) k (by omega)
    have h2:=rj1_spec B p ⟨y.f0.set low ⟨key,1,true⟩,0⟩ (by omega) s r v H 255 (addRows H 255 (rd_T76 y.f0 (low:Int)).f0 (rd_T76 y.f0 (low:Int)).f1 rows) k (by omega)
    subst hz
    simp only[rillmeterref15_Add.l0,lowF]
    rw[if_neg (by omega),i64_in _ (by omega) (by omega)]
    by_cases c:y.f1+1<v*(rd_T76 y.f0 (low:Int)).f1
    · rw[if_neg (by omega),raddf_spec k H 255 1 key rows hH0 hR (by decide) (by decide) hk (by omega),Option.bind_some]
      exact h1.trans (if_pos c).symm
    · rw[if_pos (by omega),raddf_spec k H 255 _ _ rows hH0 hR (by omega) hv1.2 (hks _ hm) (by omega),Option.bind_some,rat_spec y _ _ (by omega) k (by omega),Option.bind_some,hg,hp,Option.bind_some]
      exact h2.trans (if_neg c).symm
  |succ d ih=>
    intro i low k z hz hi hlow hk2
    obtain⟨k,rfl⟩:∃z,k=z+1:=⟨k-1,by omega⟩
    simp only[rillmeterref15_Add.l0]
    unfold lowF at hz
    rw[if_pos (by omega),if_pos (by omega),List.length_map,if_pos (by omega),i64_in ((i:Int)+1) (by omega) (by omega),show(i:Int)+1=((i+1:Nat):Int)by omega,rd77 _ _ (by omega)]
    by_cases c:(rd_T76 y.f0 (i:Int)).f1<(rd_T76 y.f0 (low:Int)).f1
    · rw[if_pos c]at hz;exact(if_pos c).trans (ih (i+1) i k z hz (by omega) (by omega) (by omega))
    · rw[if_neg c]at hz;exact(if_neg c).trans (ih (i+1) low k z hz (by omega) hlow (by omega))
def rRes (s r v H:Int):Option (List S56 × List (List Int))→Int × Int × Int × List S74 × Int × Int × List (List Int) × Bool
  |none=>(0,0,0,[],0,0,[],false)
  |some x=>(s,r,v,x.1.map b7,H,255,x.2,true)
theorem rsadd_spec {s r v:Int}{B:List S56}{H m:Int}{rows:List (List Int)}(h0:0≤s)(h:okS s r v B H m rows)(key:ByteArray)(hk:key.size≤1000)(hks:∀y∈B,∀e∈y.f0,e.f0.size≤1000):∀k,4000≤k→rillmeterref15_Add.f k s r v (B.map b7) H m rows key=some (rRes s r v H (AddR s r v B H rows key)):=by
  intro k hk2
  obtain⟨hp,hy⟩:=h.rd key
  have hks:=hks _ (take56 B _ hp).2
  have hm:=h.2.2.2.2.2.1
  subst hm
  have hH:=hrow_range s 1
  have hl:=h.2.2.1.2
  have hl1:=h.2.2.1.1
  have hH2:=h.2.2.2.2.1
  unfold rillmeterref15_Add.f AddR
  rw[rplace_spec h0 r v (B.map b7) (by rw[List.length_map];omega) (by rw[List.length_map];omega) H 255 rows key hk k (by omega),Option.bind_some,List.length_map,if_pos (by omega),if_pos (by omega),rd74 _ _ hp]
  simp only
  generalize placeOf s B.length key=p at *
  generalize rd_T56 B (p:Int)=y at *
  have hy1:=hy.1
  have hr8:=h.1.2
  have hr1:=h.1.1
  have hy2:=hy.2.1
  rw[show bytealg_abigen_runtime_cmpstring.f (b7 y).f0=some (y.f0.map e7)from rfl,Option.bind_some,rat_spec y _ key (by omega) k (by omega),Option.bind_some,show(b7 y).f1=y.f1 from rfl,List.length_map]
  rcases find7 key y.f0 0 with c|⟨j,hj,c⟩
  · have n1:¬((-1:Int)≥0):=by decide
    rw[c]
    simp only[if_neg n1]
    by_cases d:(y.f0.length:Int)<r
    · have h1:=rj1_spec B p ⟨y.f0++[⟨key,1,false⟩],y.f1⟩ (by omega) s r v H 255 rows k (by omega)
      rw[if_pos d,if_pos d,if_pos (by rw[List.length_nil];omega),Option.bind_some,if_pos (by rw[List.nil_append,List.length_map];omega),List.nil_append]
      rw[List.map_append]at h1
      exact h1
    · rw[if_neg d,if_neg d,i64_in (y.f1+1) (by omega) (by omega)]
      by_cases e:y.f1=1099511627776
      · rw[if_pos (by omega),if_pos e];rfl
      · have hv:=rvote_spec (v:=v) (H:=H) (by omega) h.2.1 s r B hl p h.2.2.2.1 y hy (by omega) key hk hks y.f0.length 0 0 k _ rfl (by omega) (by omega) (by omega)
        have e0:=rd77 y.f0 0 (by omega)
        rw[if_neg (by omega),if_neg e,if_pos (by omega)]
        rw[show rd_T77 (y.f0.map e7) 0=e7 (rd_T76 y.f0 0)from e0]
        refine hv.trans ?_
        unfold vot
        split<;>rfl
  · have hm:=(take76 y.f0 j hj).2
    have hv1:=hy.2.2.1 _ hm
    have n1:(j:Int)≥0:=by omega
    have n2:(0:Int)≤(j:Int):=n1
    have n3:(j:Int)<(y.f0.length:Int):=by omega
    rw[c,Nat.zero_add]
    simp only[if_pos n1,if_pos n2,if_pos n3]
    rw[rd77 _ _ hj,show(e7 (rd_T76 y.f0 (j:Int))).f1=(rd_T76 y.f0 (j:Int)).f1 from rfl,i64_in ((rd_T76 y.f0 (j:Int)).f1+1) (by omega) (by omega)]
    by_cases d:(rd_T76 y.f0 (j:Int)).f1=1099511627776
    · rw[if_pos (by omega),if_pos d];rfl
    · have hpt:=rput_spec y.f0 j ⟨(rd_T76 y.f0 (j:Int)).f0,(rd_T76 y.f0 (j:Int)).f1+1,(rd_T76 y.f0 (j:Int)).f2⟩ (by omega) k (by omega)
      rw[if_neg (by omega),if_neg d,Int.toNat_natCast]
      rw[show rillmeterref15_put.f k (y.f0.map e7) (j:Int) (e7 (rd_T76 y.f0 (j:Int))).f0 ((rd_T76 y.f0 (j:Int)).f1+1) (e7 (rd_T76 y.f0 (j:Int))).f2=_ from hpt,Option.bind_some]
      exact rj1_spec B p ⟨y.f0.set j ⟨(rd_T76 y.f0 (j:Int)).f0,(rd_T76 y.f0 (j:Int)).f1+1,(rd_T76 y.f0 (j:Int)).f2⟩,y.f1⟩ (by omega) s r v H 255 rows k (by omega)
theorem ref_spec (s r v H m:Int)(rows:List (List Int))(B:List S56)(hB:B.length≤4398046511104)(hl:∀y∈B,y.f0.length≤4398046511104):Evt (fun k=>rillmeterlaw15_ref.f k s r v B H m rows) (s,r,v,B.map b7,H,m,rows):=by
  have l1:∀(i:Nat)(y:S56),y.f0.length≤4398046511104→i<B.length→(Evt (fun k=>rillmeterlaw15_ref.l0 k B (B.length:Int) ((i+1:Nat):Int) s r v (((B.take i).map b7)++[b7 y]) H m rows) (s,r,v,B.map b7,H,m,rows))→∀(d j:Nat),j+d=y.f0.length→Evt (fun k=>rillmeterlaw15_ref.l1 k B (B.length:Int) (i:Int) y.f0 (y.f0.length:Int) (j:Int) s r v ((B.take i).map b7) H m rows ((y.f0.take j).map e7) y.f1) (s,r,v,B.map b7,H,m,rows):=by
    intro i y hy hi hn d
    induction d with
    |zero=>
      intro j hj
      refine Evt.step hn (fun k=>?_)
      have hc:((B.take i).map b7).length<4398046511104:=by rw[List.length_map,List.length_take];omega
      simp only[rillmeterlaw15_ref.l1]
      rw[if_neg (by omega),if_pos hc,i64_in ((i:Int)+1) (by omega) (by omega),show(i:Int)+1=((i+1:Nat):Int)by omega,List.take_of_length_le (show y.f0.length≤j by omega)]
      rfl
    |succ d ih=>
      intro j hj
      have h:=ih (j+1) (by omega)
      rw[(take76 y.f0 j (by omega)).1,List.map_append,List.map_singleton]at h
      have hc:((y.f0.take j).map e7).length<4398046511104:=by rw[List.length_map,List.length_take];omega
      refine Evt.step h (fun k=>?_)
      simp only[rillmeterlaw15_ref.l1]
      rw[if_pos (by omega),if_pos (by omega),if_pos (by omega),if_pos hc,i64_in ((j:Int)+1) (by omega) (by omega),show(j:Int)+1=((j+1:Nat):Int)by omega]
      rfl
  have l0:∀(d i:Nat),i+d=B.length→Evt (fun k=>rillmeterlaw15_ref.l0 k B (B.length:Int) (i:Int) s r v ((B.take i).map b7) H m rows) (s,r,v,B.map b7,H,m,rows):=by
    intro d
    induction d with
    |zero=>
      intro i hi
      refine⟨1,fun k hk=>?_⟩
      obtain⟨k,rfl⟩:∃z,k=z+1:=⟨k-1,by omega⟩
      simp only[rillmeterlaw15_ref.l0]
      rw[if_neg (by omega),List.take_of_length_le (by omega)]
    |succ d ih=>
      intro i hi
      have h:=ih (i+1) (by omega)
      obtain⟨q1,q2⟩:=take56 B i (by omega)
      rw[q1,List.map_append,List.map_singleton]at h
      refine Evt.step (l1 i _ (hl _ q2) (by omega) h _ 0 (Nat.zero_add _)) (fun k=>?_)
      simp only[rillmeterlaw15_ref.l0]
      rw[if_pos (by omega),if_pos (by omega),if_pos (by omega)]
      rfl
  exact l0 B.length 0 (by omega)
theorem small15_spec (s r v H m:Int)(rows:List (List Int))(hr:rows.length≤9223372036854775807)(B:List S56):∃b,Evt (fun k=>rillmeterref15_Small.f k s r v (B.map b7) H m rows) b∧(b=true→B.length≤300∧∀y∈B,y.f0.length≤20∧∀e∈y.f0,e.f0.size≤100):=by
  by_cases c:B.length>300
  · refine⟨false,⟨1,fun k hk=>?_⟩,fun h=>absurd h (by decide)⟩
    obtain⟨k,rfl⟩:∃z,k=z+1:=⟨k-1,by omega⟩
    simp only[rillmeterref15_Small.f,rillmeterref15_Small.j0]
    rw[List.length_map,if_pos (by omega)]
    rfl
  · have hb:B.length≤300:=by omega
    have l1:∀(i:Nat)(y:S56),y.f0.length≤20→i<B.length→(∃b,Evt (fun k=>rillmeterref15_Small.l0 k ((i+1:Nat):Int) s r v (B.map b7) H m rows) b∧(b=true→∀j,i+1≤j→j<B.length→(rd_T56 B (j:Int)).f0.length≤20∧∀e∈(rd_T56 B (j:Int)).f0,e.f0.size≤100))→∀(d j:Nat),j+d=y.f0.length→∃b,Evt (fun k=>rillmeterref15_Small.l1 k (i:Int) (y.f0.map e7) (y.f0.length:Int) (j:Int) s r v (B.map b7) H m rows) b∧(b=true→(∀q,j≤q→q<y.f0.length→(rd_T76 y.f0 (q:Int)).f0.size≤100)∧∀j,i+1≤j→j<B.length→(rd_T56 B (j:Int)).f0.length≤20∧∀e∈(rd_T56 B (j:Int)).f0,e.f0.size≤100):=by
      intro i y hy hi ⟨b,hb1,hb2⟩ d
      induction d with
      |zero=>
        intro j hj
        refine⟨b,Evt.step hb1 (fun k=>?_),fun h=>⟨fun q h1 h2=>by omega,hb2 h⟩⟩
        simp only[rillmeterref15_Small.l1]
        rw[if_neg (by omega),i64_in ((i:Int)+1) (by omega) (by omega),show(i:Int)+1=((i+1:Nat):Int)by omega]
      |succ d ih=>
        intro j hj
        have hj1:(j:Int)<(y.f0.length:Int):=by omega
        have hj2:(j:Int)<((y.f0.map e7).length:Int):=by rw[List.length_map];omega
        have e0:rd_T77 (y.f0.map e7) (j:Int)=e7 (rd_T76 y.f0 (j:Int)):=rd77 y.f0 j (by omega)
        by_cases c:(((rd_T76 y.f0 (j:Int)).f0.size:Nat):Int)>100
        · refine⟨false,⟨1,fun k hk=>?_⟩,fun h=>absurd h (by decide)⟩
          obtain⟨k,rfl⟩:∃z,k=z+1:=⟨k-1,by omega⟩
          simp only[rillmeterref15_Small.l1]
          rw[if_pos hj1,if_pos (by omega),if_pos hj2,e0]
          exact if_pos c
        · obtain⟨b',h1,h2⟩:=ih (j+1) (by omega)
          refine⟨b',Evt.step h1 (fun k=>?_),fun h=>⟨fun q g1 g2=>?_,(h2 h).2⟩⟩
          · simp only[rillmeterref15_Small.l1]
            rw[if_pos hj1,if_pos (by omega),if_pos hj2,e0,i64_in ((j:Int)+1) (by omega) (by omega),show(j:Int)+1=((j+1:Nat):Int)by omega]
            exact if_neg c
          · by_cases e:q=j
            · rw[e];omega
            · exact(h2 h).1 q (by omega) g2
    have l0:∀(d i:Nat),i+d=B.length→∃b,Evt (fun k=>rillmeterref15_Small.l0 k (i:Int) s r v (B.map b7) H m rows) b∧(b=true→∀j,i≤j→j<B.length→(rd_T56 B (j:Int)).f0.length≤20∧∀e∈(rd_T56 B (j:Int)).f0,e.f0.size≤100):=by
      intro d
      induction d with
      |zero=>
        intro i hi
        refine⟨true,⟨1,fun k hk=>?_⟩,fun _ j h1 h2=>by omega⟩
        obtain⟨k,rfl⟩:∃z,k=z+1:=⟨k-1,by omega⟩
        simp only[rillmeterref15_Small.l0]
        rw[List.length_map,if_neg (by omega)]
      |succ d ih=>
        intro i hi
        have e0:=rd74 B i (by omega)
        have hi1:(i:Int)<((B.map b7).length:Int):=by rw[List.length_map];omega
        by_cases c:(rd_T56 B (i:Int)).f0.length≤20
        · obtain⟨b,h1,h2⟩:=l1 i _ c (by omega) (ih (i+1) (by omega)) _ 0 (Nat.zero_add _)
          refine⟨b,Evt.step h1 (fun k=>?_),fun h j g1 g2=>?_⟩
          · simp only[rillmeterref15_Small.l0]
            rw[if_pos hi1,if_pos (by omega),e0,show(b7 (rd_T56 B (i:Int))).f0=(rd_T56 B (i:Int)).f0.map e7 from rfl,List.length_map,if_neg (by omega)]
            rfl
          · by_cases e:j=i
            · subst e
              refine⟨c,fun x hx=>?_⟩
              obtain⟨q,hq,hx⟩:=List.mem_iff_getElem.1 hx
              have:=(h2 h).1 q (by omega) hq
              have e2:=rd76 (rd_T56 B (j:Int)).f0 q hq
              rw[List.getElem?_eq_getElem hq,Option.some.injEq,hx]at e2
              rw[e2];exact this
            · exact(h2 h).2 j (by omega) g2
        · refine⟨false,⟨1,fun k hk=>?_⟩,fun h=>absurd h (by decide)⟩
          obtain⟨k,rfl⟩:∃z,k=z+1:=⟨k-1,by omega⟩
          simp only[rillmeterref15_Small.l0]
          rw[if_pos hi1,if_pos (by omega),e0,show(b7 (rd_T56 B (i:Int))).f0=(rd_T56 B (i:Int)).f0.map e7 from rfl,List.length_map,if_pos (by omega)]
    obtain⟨b,h1,h2⟩:=l0 B.length 0 (by omega)
    obtain⟨b0,hs0⟩:=small_spec (rows.length+1) rows hr (by omega)
    have hs:∀k,rows.length+1≤k→rillmeterref11_Small.f k rows=some b0:=fun k hk=>at_rounds (g:=fun k=>rillmeterref11_Small.f k rows) (fun k=>rillmeterref11_Small.mono rows k) hk hs0
    cases b0 with
    |false=>
      refine⟨false,⟨rows.length+2,fun k hk=>?_⟩,fun h=>absurd h (by decide)⟩
      obtain⟨k,rfl⟩:∃z,k=z+1:=⟨k-1,by omega⟩
      simp only[rillmeterref15_Small.f,rillmeterref15_Small.j0]
      rw[List.length_map,if_neg (by omega),hs _ (by omega)]
      rfl
    |true=>
      obtain⟨n,h1⟩:=h1
      refine⟨b,⟨n+rows.length+2,fun k hk=>?_⟩,fun h=>⟨hb,fun y hy=>?_⟩⟩
      · obtain⟨k,rfl⟩:∃z,k=z+1:=⟨k-1,by omega⟩
        simp only[rillmeterref15_Small.f,rillmeterref15_Small.j0]
        rw[List.length_map,if_neg (by omega),hs _ (by omega)]
        exact h1 k (by omega)
      · obtain⟨q,hq,hy⟩:=List.mem_iff_getElem.1 hy
        have:=h2 h q (by omega) hq
        have e2:=rd56 B q hq
        rw[List.getElem?_eq_getElem hq,Option.some.injEq,hy]at e2
        rw[e2];exact this
theorem equal15_spec (s r v H m:Int)(rows:List (List Int))(h7:rows.length≤7)(hlen:∀r∈rows,r.length≤256)(C:List S74)(hC:C.length≤300)(hl:∀y∈C,y.f0.length≤30):Evt (fun k=>rillmeterref15_Equal.f k s r v C H m rows s r v C H m rows) true:=by
  have l1:∀(i:Nat)(y:S74),y.f0.length≤30→i<C.length→(Evt (fun k=>rillmeterref15_Equal.l0 k ((i+1:Nat):Int) s r v C H m rows s r v C H m rows) true)→∀(d j:Nat),j+d=y.f0.length→Evt (fun k=>rillmeterref15_Equal.l1 k (i:Int) (j:Int) s r v C H m rows s r v C H m rows y.f0 y.f1 y.f0 y.f1) true:=by
    intro i y hy hi hn d
    induction d with
    |zero=>
      intro j hj
      refine Evt.step hn (fun k=>?_)
      simp only[rillmeterref15_Equal.l1]
      rw[if_neg (by omega),i64_in ((i:Int)+1) (by omega) (by omega),show(i:Int)+1=((i+1:Nat):Int)by omega]
    |succ d ih=>
      intro j hj
      refine Evt.step (ih (j+1) (by omega)) (fun k=>?_)
      simp only[rillmeterref15_Equal.l1]
      rw[if_pos (by omega),if_pos (by omega),if_pos (by omega),i64_in ((j:Int)+1) (by omega) (by omega),show(j:Int)+1=((j+1:Nat):Int)by omega,beq_self_eq_true,beq_self_eq_true,beq_self_eq_true]
      rfl
  have l0:∀(d i:Nat),i+d=C.length→Evt (fun k=>rillmeterref15_Equal.l0 k (i:Int) s r v C H m rows s r v C H m rows) true:=by
    intro d
    induction d with
    |zero=>
      intro i hi
      refine⟨1,fun k hk=>?_⟩
      obtain⟨k,rfl⟩:∃z,k=z+1:=⟨k-1,by omega⟩
      simp only[rillmeterref15_Equal.l0]
      rw[if_neg (by omega)]
    |succ d ih=>
      intro i hi
      have hm:rd_T74 C (i:Int)∈C:=by
        unfold rd_T74
        rw[Int.toNat_natCast,List.getD_eq_getElem?_getD,List.getElem?_eq_getElem (by omega)]
        exact List.getElem_mem _
      have h:=l1 i _ (hl _ hm) (by omega) (ih (i+1) (by omega)) _ 0 (Nat.zero_add _)
      refine Evt.step (Evt.step h (f:=fun k=>rillmeterref15_Equal.j2 k (i:Int) false s r v C H m rows s r v C H m rows (rd_T74 C (i:Int)).f0 (rd_T74 C (i:Int)).f1 (rd_T74 C (i:Int)).f0 (rd_T74 C (i:Int)).f1) (fun k=>?_)) (fun k=>?_)
      · simp only[rillmeterref15_Equal.j2]
        rw[if_neg (by decide)];rfl
      · simp only[rillmeterref15_Equal.l0]
        rw[if_pos (by omega),if_pos (by omega),if_pos (by omega),if_pos trivial,bne_self_eq_false]
  obtain⟨n,h⟩:=l0 C.length 0 (by omega)
  refine⟨n+2001,fun k hk=>?_⟩
  obtain⟨k,rfl⟩:∃z,k=z+1:=⟨k-1,by omega⟩
  simp only[rillmeterref15_Equal.f,rillmeterref15_Equal.j0]
  rw[if_pos trivial,if_pos trivial,if_pos trivial,if_pos trivial,equal_spec _ H m rows h7 hlen (by omega)]
  exact h k (by omega)
theorem AddR_ok {s r v:Int}{B:List S56}{H m:Int}{rows:List (List Int)}(h:okS s r v B H m rows)(key:ByteArray)(x:List S56 × List (List Int))(e:AddR s r v B H rows key=some x):x.1.length≤300∧(∀y∈x.1,y.f0.length≤30)∧rightL 255 x.2:=by
  obtain⟨hp,hy⟩:=h.rd key
  have hm:=h.2.2.2.2.2.1
  subst hm
  have hr:=h.2.2.2.1
  have hr8:=h.1
  have hB:=h.2.2.1
  have hset:∀y':S56,y'.f0.length≤30→∀rows',rightL 255 rows'→(B.set (placeOf s B.length key) y').length≤300∧(∀z∈B.set (placeOf s B.length key) y',z.f0.length≤30)∧rightL 255 rows':=by
    intro y' h1 rows' h2
    refine⟨by rw[List.length_set];omega,fun z hz=>?_,h2⟩
    rcases List.mem_or_eq_of_mem_set hz with hz|hz
    · have:=(h.2.2.2.2.2.2 z hz).1;omega
    · rw[hz];exact h1
  have hy1:=hy.1
  unfold AddR at e
  simp only at e
  generalize rd_T56 B (placeOf s B.length key:Int)=y at *
  split at e
  · split at e
    · exact absurd e (by simp)
    · rw[←Option.some.inj e];exact hset _ (by simp only[List.length_set];omega) _ hr
  · split at e
    · rw[←Option.some.inj e];exact hset _ (by simp only[List.length_append,List.length_cons,List.length_nil];omega) _ hr
    · split at e
      · exact absurd e (by simp)
      · rename_i g1 g2 g3
        rw[←Option.some.inj e]
        have hl:=lowF_lt y.f0 y.f0.length 0 0 (by omega) (by omega)
        have hv:=hy.2.2.1 _ (take76 y.f0 _ hl).2
        have hv0:=hv.1
        unfold vot
        split
        · exact hset _ (by simp only;omega) _ (addRows_right _ _ _ _ _ hr (by omega))
        · exact hset _ (by simp only[List.length_set];omega) _ (addRows_right _ _ _ _ _ hr (by omega))
theorem ElasticTurns:rillmeterlaw15_ElasticTurns.Pure:=by
  intro s r v B H m rows key most hs _ _ hB _ _ hR _ _
  have hb:0≤s∧s<18446744073709551616:=by
    simp only[Lit.wf]at hs
    have h1:=Bool.and_eq_true_iff.1 hs
    have h2:=of_decide_eq_true h1.1
    have h3:=of_decide_eq_true h1.2
    have e1:IntKind.u64.min=0:=by decide
    have e2:IntKind.u64.max=18446744073709551615:=by decide
    omega
  obtain⟨n0,e0⟩:=awake15_spec
  obtain⟨n1,e1⟩:=ref_spec s r v H m rows B (by omega) (fun y hy=>by have:=(hB.2 y hy).1.1;omega)
  obtain⟨sm,⟨n2,e2⟩,hsm⟩:=small15_spec s r v H m rows (by omega) B
  simp only at e0 e1 e2
  have start:∀k,n1≤k→n2≤k→rillmeterlaw15_ElasticTurns.f k s r v B H m rows key most=(if sm=true then rillmeterlaw15_ElasticTurns.j0 k key most (decide ((key.size:Int)>100)) s r v B H m rows s r v (B.map b7) H m rows else rillmeterlaw15_ElasticTurns.j0 k key most true s r v B H m rows s r v (B.map b7) H m rows):=by
    intro k h1 h2
    simp only[rillmeterlaw15_ElasticTurns.f]
    rw[e1 k h1,Option.bind_some]
    simp only
    rw[e2 k h2,Option.bind_some]
  have out:∀k,n0≤k→rillmeterlaw15_ElasticTurns.j0 (k+1) key most true s r v B H m rows s r v (B.map b7) H m rows=some true:=by
    intro k h
    simp only[rillmeterlaw15_ElasticTurns.j0]
    rw[if_pos trivial,e0 k h];rfl
  by_cases c1:sm=true
  · by_cases c2:(key.size:Int)>100
    · refine⟨n0+n1+n2+1,?_⟩
      rw[start _ (by omega) (by omega),if_pos c1,decide_eq_true c2]
      exact out _ (by omega)
    · obtain⟨hB3,hB4⟩:=hsm c1
      have hks:∀y∈B,∀e∈y.f0,e.f0.size≤1000:=fun y hy e he=>by have:=(hB4 y hy).2 e he;omega
      have hl20:∀y∈B,y.f0.length≤20:=fun y hy=>(hB4 y hy).1
      have hk:key.size≤1000:=by omega
      obtain⟨b1,r1,r2⟩:=eright_spec hb.1 hb.2 r v B H m rows hl20
      obtain⟨b2,r3,r4⟩:=rright15_spec hb.1 r v B H m rows hB3 hl20
      by_cases ok:okS s r v B H m rows
      · have hb1:=r2.2 ok
        have hb2:=r4.2 ok
        subst hb1
        subst hb2
        have a1:=eadd_spec hb.1 hb.2 ok r1 key hk hks
        have a2:=eget_spec hb.1 hb.2 ok r1 key hk
        have a3:=rget_spec hb.1 ok key hk
        have a4:=rsadd_spec hb.1 ok key hk hks
        obtain⟨m1,l1⟩:=elist_l0 most B hB3 hl20
        obtain⟨m2,l2⟩:=rlist_spec s r v H m rows most B hB3 hl20
        have hil:=items_len most 20 B hl20
        obtain⟨m3,l3⟩:=items_same (lsort (items most B)) (by rw[lsort_len];omega)
        simp only at l1 l2 l3
        have mid:∀k,30000≤k→m1≤k→m2≤k→m3≤k→rillmeterlaw15_ElasticTurns.j0 (k+1) key most false s r v B H m rows s r v (B.map b7) H m rows=rillmeterlaw15_ElasticTurns.j1 k key (eRes s r v H (AddR s r v B H rows key)).2.2.2.2.2.2.2 false s r v (B.map b7) H m rows (eRes s r v H (AddR s r v B H rows key)).1 (eRes s r v H (AddR s r v B H rows key)).2.1 (eRes s r v H (AddR s r v B H rows key)).2.2.1 (eRes s r v H (AddR s r v B H rows key)).2.2.2.1 (eRes s r v H (AddR s r v B H rows key)).2.2.2.2.1 (eRes s r v H (AddR s r v B H rows key)).2.2.2.2.2.1 (eRes s r v H (AddR s r v B H rows key)).2.2.2.2.2.2.1:=by
          intro k h1 h2 h3 h4
          simp only[rillmeterlaw15_ElasticTurns.j0,elastic_List.f]
          rw[if_neg (by decide),a1 k (by omega),Option.bind_some,a2 k (by omega),Option.bind_some,r1 k (by omega),Option.bind_some,if_pos rfl,l1 k h2,Option.bind_some,r3 k h1,Option.bind_some,if_pos rfl,a3 k (by omega),Option.bind_some,if_pos rfl,if_pos rfl,bne_self_eq_false,if_neg (by decide),bne_self_eq_false,if_neg (by decide),l2 k h3,Option.bind_some,l3 k h4,Option.bind_some,if_pos rfl,Option.bind_some]
          rfl
        cases hx:AddR s r v B H rows key with
        |none=>
          refine⟨n0+n1+n2+m1+m2+m3+30002,?_⟩
          rw[start _ (by omega) (by omega),if_pos c1,decide_eq_false c2,mid _ (by omega) (by omega) (by omega) (by omega),hx]
          simp only[rillmeterlaw15_ElasticTurns.j1,eRes]
          rw[if_neg (by decide),a4 _ (by omega),Option.bind_some,hx]
          simp only[rRes]
          refine Eq.trans (b:=(rillmeterlaw15_awake.f (n0+n1+n2+m1+m2+m3+30000)).bind (fun t=>some t)) rfl ?_
          rw[e0 _ (by omega)]
          rfl
        |some x=>
          obtain⟨g1,g2,g3⟩:=AddR_ok ok key x hx
          obtain⟨m4,l4⟩:=ref_spec s r v H 255 x.2 x.1 (by omega) (fun y hy=>by have:=g2 y hy;omega)
          obtain⟨m5,l5⟩:=equal15_spec s r v H 255 x.2 g3.2.2.2.1 (fun z hz=>(g3.2.2.2.2 z hz).2.1) (x.1.map b7) (by rw[List.length_map];exact g1) (fun y hy=>by
            obtain⟨z,hz,rfl⟩:=List.mem_map.1 hy
            show(z.f0.map e7).length≤30
            rw[List.length_map];exact g2 z hz)
          simp only at l4 l5
          refine⟨n0+n1+n2+m1+m2+m3+m4+m5+30002,?_⟩
          rw[start _ (by omega) (by omega),if_pos c1,decide_eq_false c2,mid _ (by omega) (by omega) (by omega) (by omega),hx]
          simp only[rillmeterlaw15_ElasticTurns.j1,eRes]
          rw[if_neg (by decide),a4 _ (by omega),Option.bind_some,hx]
          simp only[rRes]
          rw[if_pos trivial,if_pos trivial,l4 _ (by omega),Option.bind_some]
          simp only
          rw[l5 _ (by omega),Option.bind_some,if_pos rfl,e0 _ (by omega)]
          rfl
      · have hb1:b1=false:=by cases b1 with
          |false=>rfl
          |true=>exact absurd (r2.1 rfl) ok
        have hb2:b2=false:=by cases b2 with
          |false=>rfl
          |true=>exact absurd (r4.1 rfl) ok
        subst hb1
        subst hb2
        refine⟨n0+n1+n2+30002,?_⟩
        rw[start _ (by omega) (by omega),if_pos c1,decide_eq_false c2]
        simp only[rillmeterlaw15_ElasticTurns.j0,elastic_List.f,elastic_Add.f,elastic_Get.f]
        rw[if_neg (by decide),r1 _ (by omega),Option.bind_some,if_neg (by decide),Option.bind_some,Option.bind_some,if_neg (by decide),Option.bind_some,Option.bind_some,if_neg (by decide),Option.bind_some,r3 _ (by omega),Option.bind_some,if_neg (by decide),Option.bind_some,if_neg (by decide),if_pos rfl,if_pos (by rfl),if_pos rfl,if_pos rfl,if_neg (by decide),if_neg (by decide),if_pos (by rfl),e0 _ (by omega)]
        rfl
  · refine⟨n0+n1+n2+1,?_⟩
    rw[start _ (by omega) (by omega),if_neg c1]
    exact out _ (by omega)
end Go.Proofs.Ytljmjjeghebdpaa.Pure
