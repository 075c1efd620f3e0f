/- An argument that reads as data is opened, kind by kind: what its cells say. Each lemma's condition: the reading of the argument succeeds. -/
import Derived.Test.YtljmjjeghebdpaaWWords
import Derived.ChangeArms
import Derived.DataReads
import Derived.DataElems
namespace Go.Proofs.Ytljmjjeghebdpaa.Open
open Go Go.RowKit Go.Proofs.YtljmjjeghebdpaaW.PrintWords
def Opens {α H:Type}(enc:TypeId × Value→H)(P:Program)(W:World)(t:TypeId)(K:Kd α)(ok:α→Prop):Prop:=
  ∀(fuel:Nat)(cs:List Value)(x:DataW H × List MemPlace),DataW.trod enc P W 0 (fun _=>true) true fuel t cs=some x→∃y,K.K W y cs∧ok y
section
variable {H:Type} {enc:TypeId × Value→H} {P:Program} {W:World} {t:TypeId}
theorem opens_int {k:IntKind}(ht:P.underlying t=some (.int k)):Opens enc P W t (Kd.int k) (fun n=>(Lit.int k n).wf=true):=by
  intro fuel cs x h
  obtain⟨n,rfl,_,hw⟩:=DataW.trod_int ht h
  exact⟨n,rfl,hw⟩
theorem opens_bool (ht:P.underlying t=some .bool):Opens enc P W t Kd.bool (fun _=>True):=by
  intro fuel cs x h
  obtain⟨b,rfl,_⟩:=DataW.trod_bool ht h
  exact⟨b,rfl,trivial⟩
theorem opens_string (ht:P.underlying t=some .string):Opens enc P W t Kd.string (fun s=>s.size≤maxLen):=by
  intro fuel cs x h
  obtain⟨s,rfl,_,hs⟩:=DataW.trod_string ht h
  exact⟨s,rfl,hs⟩
theorem pick_list {α:Type}(n:Nat)(Q:Nat→α→Prop)(h:∀i,i<n→∃y,Q i y):∃l:List α,l.length=n∧∀i y,l[i]? =some y→Q i y:=by
  induction n with
  |zero=>exact⟨[],rfl,fun i y hy=>by simp at hy⟩
  |succ n ih=>
    obtain⟨l,hl,hq⟩:=ih (fun i hi=>h i (by omega))
    obtain⟨y,hy⟩:=h n (by omega)
    refine⟨l++[y],by simp[hl],fun i z hz=>?_⟩
    rcases Nat.lt_or_ge i n with hi|hi
    · rw[List.getElem?_append_left (by omega)]at hz
      exact hq i z hz
    · have hlt:=(List.getElem?_eq_some_iff.1 hz).1
      rw[List.length_append,List.length_singleton]at hlt
      have e:i=l.length:=by omega
      subst e
      rw[List.getElem?_append_right (by omega),Nat.sub_self]at hz
      have e2:y=z:=by simpa using hz
      rw[hl,←e2];exact hy
theorem opens_slice {α:Type}{e:TypeId}{d:Kd α}{ok:α→Prop}(ht:P.underlying t=some (.slice e))(hsz:P.cellsOf e=d.sz)(he:Opens enc P W e d ok):
    Opens enc P W t (Kd.slice e d) (fun l=>l.length≤maxLen∧∀y∈l,ok y):=by
  intro fuel cs x h
  rcases DataW.trod_slice ht h with⟨rfl,_⟩|⟨a,len,cap,elems,rest,n,_,rfl,_,_,hl,hm,hlen,hel,_,_⟩
  · exact⟨[],⟨none,0,rfl,Nat.le_refl _,rfl,Nat.zero_le _,fun h0=>absurd h0 (Nat.lt_irrefl 0)⟩,Nat.zero_le _,fun y hy=>by cases hy⟩
  · obtain⟨l,hll,hq⟩:=pick_list (α:=α) len (fun i y=>(∃c,W.cells? 0 (a.add (i*P.cellsOf e)) (P.cellsOf e)=some c∧d.K W y c)∧ok y) (fun i hi=>by
      have h1:=hel i hi
      rw[List.getElem?_eq_getElem (by omega)]at h1
      obtain⟨c,hc,hd⟩:=Option.bind_eq_some_iff.1 h1
      obtain⟨y,hy,ho⟩:=he n c _ hd
      exact⟨y,⟨c,hc,hy⟩,ho⟩)
    have hml:maxLen=9223372036854775807:=by decide
    refine⟨l,⟨some a,cap,by rw[hll],by omega,rfl,by omega,fun _=>⟨a,rfl,fun j p hj=>?_⟩⟩,by omega,fun y hy=>?_⟩
    · obtain⟨⟨c,hc,hk⟩,_⟩:=hq j p hj
      obtain⟨_,hcl,hcell⟩:=World.cells?_some hc
      refine⟨c,by rw[hcl,hsz],hk,fun i u hu=>?_⟩
      have hi:=(List.getElem?_eq_some_iff.1 hu).1
      have h2:=hcell i (by omega)
      rw[hu,hsz]at h2
      have e2:(a.add (j*d.sz)).add i=a.add (j*d.sz+i):=Addr.add_add _ _ _
      rw[←e2];exact h2
    · obtain⟨i,hi⟩:=List.getElem?_of_mem hy
      exact(hq i y hi).2
theorem opens_iso {α β:Type}{d:Kd β}{ok:β→Prop}(f:α→β)(g:β→α)(hfg:∀y,f (g y)=y)(h:Opens enc P W t d ok):Opens enc P W t (Kd.iso d f) (fun x=>ok (f x)):=by
  intro fuel cs x hx
  obtain⟨y,hy,ho⟩:=h fuel cs x hx
  exact⟨g y,by show d.K W (f (g y)) cs;rw[hfg];exact hy,by show ok (f (g y));rw[hfg];exact ho⟩
theorem fields_of {fs:Array Field}(ht:P.underlying t=some (.struct fs)){fuel:Nat}{cs:List Value}{x:DataW H × List MemPlace}
    (h:DataW.trod enc P W 0 (fun _=>true) true fuel t cs=some x):
    cs.length=P.cellsOf t∧∃n,∀(i:Nat)(f:Field),fs[i]? =some f→∃z,DataW.trod enc P W 0 (fun _=>true) true n f.type ((cs.drop f.offset).take (P.cellsOf f.type))=some z:=by
  obtain⟨xs,n,_,_,hl,hx,hf⟩:=DataW.trod_struct ht h
  refine⟨hl,n,fun i f hi=>?_⟩
  have h1:=hf i f hi
  have hlt:=(Array.getElem?_eq_some_iff.1 hi).1
  rw[List.getElem?_eq_getElem (by omega)]at h1
  exact⟨_,h1⟩
theorem field_at {fs:Array Field}{n:Nat}{cs:List Value}
    (hf:∀(i:Nat)(f:Field),fs[i]? =some f→∃z,DataW.trod enc P W 0 (fun _=>true) true n f.type ((cs.drop f.offset).take (P.cellsOf f.type))=some z)
    (i:Nat) {f:Field} (hi:fs[i]? =some f) {ty off sz:Nat} (h1:f.type=ty) (h2:f.offset=off) (h3:P.cellsOf ty=sz):
    ∃z,DataW.trod enc P W 0 (fun _=>true) true n ty ((cs.drop off).take sz)=some z:=by
  subst h1 h2 h3
  exact hf i f hi
end
theorem list_one {α:Type}{l:List α}(h:l.length=1):∃a0,l=[a0]:=List.length_eq_one_iff.1 h
theorem list_2 {α:Type}{l:List α}(h:l.length=2):∃a0 a1,l=[a0,a1]:=by
  cases l with
  |nil=>simp at h
  |cons x l=>
    obtain⟨a0,rfl⟩:=list_one (l:=l) (by simpa using h)
    exact⟨x,a0,rfl⟩
theorem list_3 {α:Type}{l:List α}(h:l.length=3):∃a0 a1 a2,l=[a0,a1,a2]:=by
  cases l with
  |nil=>simp at h
  |cons x l=>
    obtain⟨a0,a1,rfl⟩:=list_2 (l:=l) (by simpa using h)
    exact⟨x,a0,a1,rfl⟩
theorem list_4 {α:Type}{l:List α}(h:l.length=4):∃a0 a1 a2 a3,l=[a0,a1,a2,a3]:=by
  cases l with
  |nil=>simp at h
  |cons x l=>
    obtain⟨a0,a1,a2,rfl⟩:=list_3 (l:=l) (by simpa using h)
    exact⟨x,a0,a1,a2,rfl⟩
theorem list_5 {α:Type}{l:List α}(h:l.length=5):∃a0 a1 a2 a3 a4,l=[a0,a1,a2,a3,a4]:=by
  cases l with
  |nil=>simp at h
  |cons x l=>
    obtain⟨a0,a1,a2,a3,rfl⟩:=list_4 (l:=l) (by simpa using h)
    exact⟨x,a0,a1,a2,a3,rfl⟩
theorem list_6 {α:Type}{l:List α}(h:l.length=6):∃a0 a1 a2 a3 a4 a5,l=[a0,a1,a2,a3,a4,a5]:=by
  cases l with
  |nil=>simp at h
  |cons x l=>
    obtain⟨a0,a1,a2,a3,a4,rfl⟩:=list_5 (l:=l) (by simpa using h)
    exact⟨x,a0,a1,a2,a3,a4,rfl⟩
theorem list_7 {α:Type}{l:List α}(h:l.length=7):∃a0 a1 a2 a3 a4 a5 a6,l=[a0,a1,a2,a3,a4,a5,a6]:=by
  cases l with
  |nil=>simp at h
  |cons x l=>
    obtain⟨a0,a1,a2,a3,a4,a5,rfl⟩:=list_6 (l:=l) (by simpa using h)
    exact⟨x,a0,a1,a2,a3,a4,a5,rfl⟩
theorem list_8 {α:Type}{l:List α}(h:l.length=8):∃a0 a1 a2 a3 a4 a5 a6 a7,l=[a0,a1,a2,a3,a4,a5,a6,a7]:=by
  cases l with
  |nil=>simp at h
  |cons x l=>
    obtain⟨a0,a1,a2,a3,a4,a5,a6,rfl⟩:=list_7 (l:=l) (by simpa using h)
    exact⟨x,a0,a1,a2,a3,a4,a5,a6,rfl⟩
theorem list_9 {α:Type}{l:List α}(h:l.length=9):∃a0 a1 a2 a3 a4 a5 a6 a7 a8,l=[a0,a1,a2,a3,a4,a5,a6,a7,a8]:=by
  cases l with
  |nil=>simp at h
  |cons x l=>
    obtain⟨a0,a1,a2,a3,a4,a5,a6,a7,rfl⟩:=list_8 (l:=l) (by simpa using h)
    exact⟨x,a0,a1,a2,a3,a4,a5,a6,a7,rfl⟩
theorem list_10 {α:Type}{l:List α}(h:l.length=10):∃a0 a1 a2 a3 a4 a5 a6 a7 a8 a9,l=[a0,a1,a2,a3,a4,a5,a6,a7,a8,a9]:=by
  cases l with
  |nil=>simp at h
  |cons x l=>
    obtain⟨a0,a1,a2,a3,a4,a5,a6,a7,a8,rfl⟩:=list_9 (l:=l) (by simpa using h)
    exact⟨x,a0,a1,a2,a3,a4,a5,a6,a7,a8,rfl⟩
theorem list_11 {α:Type}{l:List α}(h:l.length=11):∃a0 a1 a2 a3 a4 a5 a6 a7 a8 a9 a10,l=[a0,a1,a2,a3,a4,a5,a6,a7,a8,a9,a10]:=by
  cases l with
  |nil=>simp at h
  |cons x l=>
    obtain⟨a0,a1,a2,a3,a4,a5,a6,a7,a8,a9,rfl⟩:=list_10 (l:=l) (by simpa using h)
    exact⟨x,a0,a1,a2,a3,a4,a5,a6,a7,a8,a9,rfl⟩
theorem list_12 {α:Type}{l:List α}(h:l.length=12):∃a0 a1 a2 a3 a4 a5 a6 a7 a8 a9 a10 a11,l=[a0,a1,a2,a3,a4,a5,a6,a7,a8,a9,a10,a11]:=by
  cases l with
  |nil=>simp at h
  |cons x l=>
    obtain⟨a0,a1,a2,a3,a4,a5,a6,a7,a8,a9,a10,rfl⟩:=list_11 (l:=l) (by simpa using h)
    exact⟨x,a0,a1,a2,a3,a4,a5,a6,a7,a8,a9,a10,rfl⟩
end Go.Proofs.Ytljmjjeghebdpaa.Open
