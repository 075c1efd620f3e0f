/- Functions, each as a plain function, with the proof that a call comes to its answer. Condition of each: the arguments read as the data that it names, and the plain function has an answer. -/
import Derived.Test.YtljmjjeghebdpaaProg
import Derived.Below
import Derived.Deep.Draws
import Derived.Deep.AppendLies
import Derived.Maps.AppendAt
import Derived.OwnWalk
import Derived.Laws.BytesArg
import Derived.Laws.MakeOwn
import Derived.Laws.OwnMore
import Derived.Deep.OwnRows
import Derived.Tactics
import Derived.Lib.ConvBytes
import Derived.Laws.Slices
import Derived.WalkKit
import Derived.KernelRfl
import Derived.RowKit3
import Derived.Deep.LoopGhost
import Derived.Deep.QuietTactic
import Derived.BigQuiet
import Derived.WideLaws
import Derived.Deep.DeepCutAuto
import Derived.Deep.CutBlock
import Derived.Deep.RegionHeld3
import Derived.Laws.Rows
import Derived.Lib.AppendStr
import Derived.ArgAppend
import Derived.Laws.IdiomCopy
import Derived.OrdersHeld
import Derived.Laws.BitsLemmas
import Derived.RowKit
import Derived.Test.YtljmjjeghebdpaaWWords
import Derived.Test.YtljmjjeghebdpaaWLast
import Derived.Test.YtljmjjeghebdpaaWTab
import Derived.Test.YtljmjjeghebdpaaWFour
import Derived.Test.YtljmjjeghebdpaaWQPut
import Derived.Test.YtljmjjeghebdpaaWApart
import Derived.Test.YtljmjjeghebdpaaWArr
import Derived.Test.YtljmjjeghebdpaaWZeros
import Derived.Test.YtljmjjeghebdpaaWFoot
import Derived.Test.YtljmjjeghebdpaaWKept
import Derived.Test.YtljmjjeghebdpaaWShare
import Derived.Test.YtljmjjeghebdpaaWN
import Derived.Test.YtljmjjeghebdpaaWFootNe
import Derived.Test.YtljmjjeghebdpaaWAt
import Derived.Test.YtljmjjeghebdpaaWEqStruct
import Derived.Test.YtljmjjeghebdpaaWRepsOne
import Derived.Test.YtljmjjeghebdpaaWInv
import Derived.Test.YtljmjjeghebdpaaWInvWords
import Derived.Test.YtljmjjeghebdpaaWGuard
import Derived.Test.YtljmjjeghebdpaaWNEv
import Derived.Test.YtljmjjeghebdpaaWMore
import Derived.Test.YtljmjjeghebdpaaShort
import Derived.Lib.SliceRun
import Derived.Test.YtljmjjeghebdpaaPressMore
namespace Go.Proofs.Ytljmjjeghebdpaa.PElasticTurns
open Go.RowKit Go.Proofs.YtljmjjeghebdpaaW.PrintWords Go.Proofs.YtljmjjeghebdpaaW.PrintLast Go.Proofs.YtljmjjeghebdpaaW.PrintMore Go.Proofs.Ytljmjjeghebdpaa.Short Go.Proofs.Ytljmjjeghebdpaa.Press Go.Proofs.Ytljmjjeghebdpaa.PressMore
attribute [local go_sem] max2_int min2_int max_two min_two max_three min_three max_four min_four
set_option linter.unusedVariables false
set_option linter.unusedSimpArgs false
def errW:Option Int→Value
  |none=>.nilIface
  |some c=>.iface 0 (.int .i64 c)
theorem errW_none:errW none=.nilIface:=rfl
theorem errW_some (c:Int):errW (some c)=.iface 0 (.int .i64 c):=rfl
theorem info3:(Try.prog.info? 3).map (fun i=>(i.zero,i.size,i.bytes))=some (some (.int .i64 0),1,8):=by kernel_rfl
theorem info5:(Try.prog.info? 5).map (fun i=>(i.zero,i.size,i.bytes))=some (some (.int .u8 0),1,1):=by kernel_rfl
theorem info9:(Try.prog.info? 9).map (fun i=>(i.zero,i.size,i.bytes))=some (some (.string ⟨#[]⟩),1,16):=by kernel_rfl
theorem info22:(Try.prog.info? 22).map (fun i=>(i.zero,i.size,i.bytes))=some (some (.int .u64 0),1,8):=by kernel_rfl
theorem info56:(Try.prog.info? 56).map (fun i=>(i.zero,i.size,i.bytes))=some (some (.agg #[(.slice none 0 0),(.int .i64 0)]),2,32):=by kernel_rfl
theorem info57:(Try.prog.info? 57).map (fun i=>(i.zero,i.size,i.bytes))=some (some (.slice none 0 0),1,24):=by kernel_rfl
theorem info68:(Try.prog.info? 68).map (fun i=>(i.zero,i.size,i.bytes))=some (some (.agg #[(.string ⟨#[]⟩),(.int .i64 0)]),2,24):=by kernel_rfl
theorem info74:(Try.prog.info? 74).map (fun i=>(i.zero,i.size,i.bytes))=some (some (.agg #[(.slice none 0 0),(.int .i64 0)]),2,32):=by kernel_rfl
theorem info76:(Try.prog.info? 76).map (fun i=>(i.zero,i.size,i.bytes))=some (some (.agg #[(.string ⟨#[]⟩),(.int .i64 0),(.bool false)]),3,32):=by kernel_rfl
theorem info77:(Try.prog.info? 77).map (fun i=>(i.zero,i.size,i.bytes))=some (some (.agg #[(.string ⟨#[]⟩),(.int .i64 0),(.bool false)]),3,32):=by kernel_rfl
theorem info100:(Try.prog.info? 100).map (fun i=>(i.zero,i.size,i.bytes))=some (some (.agg #[(.string ⟨#[]⟩),(.int .i64 0)]),2,24):=by kernel_rfl
structure S76 where
  f0:ByteArray
  f1:Int
  f2:Bool
def z76:S76:=⟨(⟨#[]⟩:ByteArray),(0:Int),false⟩
def k76:Kd S76:=Kd.iso (Kd.pair Kd.string (Kd.pair (Kd.int .i64) Kd.bool)) (fun x:S76=>(x.f0,x.f1,x.f2))
theorem k76_heap:Kd.Heap k76:=Kd.heap_iso _ (Kd.heap_pair Kd.heap_string (Kd.heap_pair (Kd.heap_int .i64) Kd.heap_bool))
theorem k76_open {w:World}{x:S76}{cs:List Value}(h:k76.K w x cs):cs=[.string x.f0,.int .i64 x.f1,.bool x.f2]:=by
  obtain⟨_,_,rfl,rfl,⟨_,_,rfl,rfl,rfl⟩⟩:=h
  exact rfl
theorem k76_openM {w:World}{base:Nat}{ok:Nat→Prop}{x:S76}{cs:List Value}(h:k76.M w base ok x cs):cs=[.string x.f0,.int .i64 x.f1,.bool x.f2]:=by
  obtain⟨_,_,rfl,rfl,⟨_,_,rfl,rfl,rfl⟩⟩:=h
  exact rfl
theorem k76_mk (w:World)(x:S76):k76.K w x [.string x.f0,.int .i64 x.f1,.bool x.f2]:=⟨[.string x.f0],[.int .i64 x.f1,.bool x.f2],rfl,rfl,⟨[.int .i64 x.f1],[.bool x.f2],rfl,rfl,rfl⟩⟩
theorem k76_mkM (w:World)(base:Nat)(ok:Nat→Prop)(x:S76):k76.M w base ok x [.string x.f0,.int .i64 x.f1,.bool x.f2]:=⟨[.string x.f0],[.int .i64 x.f1,.bool x.f2],rfl,rfl,⟨[.int .i64 x.f1],[.bool x.f2],rfl,rfl,rfl⟩⟩
theorem k76_mkF (W:World)(ok:Nat→Prop)(x:S76):Kd.FK k76 W ok x [.string x.f0,.int .i64 x.f1,.bool x.f2]:=fun W2 _=>k76_mk W2 x
def rd_T76 (xs:List S76)(i:Int):S76:=xs.getD i.toNat z76
theorem at_T76 {w:World}{A:Option Addr}{n:Nat}{xs:List S76}(h:Kd.C k76 w A n xs)(i:Int)(h0:0≤i)(h1:i<n):∃ad,A=some ad∧w.cell? (ad.add (i.toNat*3))=some (.string (rd_T76 xs i).f0)∧w.cell? ⟨(ad.add (i.toNat*3)).block,(ad.add (i.toNat*3)).off+1,none⟩=some (.int .i64 (rd_T76 xs i).f1)∧w.cell? ⟨(ad.add (i.toNat*3)).block,(ad.add (i.toNat*3)).off+2,none⟩=some (.bool (rd_T76 xs i).f2):=by
  obtain⟨ad,c,e,_,hK,hc0⟩:=Kd.C_get h z76 i h0 h1
  have hc:∀j u,c[j]? =some u→w.cell? (ad.add (i.toNat*3+j))=some u:=hc0
  obtain rfl:=k76_open hK
  exact⟨ad,e,hc 0 _ rfl,by rw[←add_field _ _ 1 (by omega)];exact hc 1 _ rfl,by rw[←add_field _ _ 2 (by omega)];exact hc 2 _ rfl⟩
def rd_L4 (xs:List (List S76))(i:Int):(List S76):=xs.getD i.toNat ([]:List S76)
theorem at_L4 {w:World}{A:Option Addr}{n:Nat}{xs:List (List S76)}(h:Kd.C (Kd.slice 76 k76) w A n xs)(i:Int)(h0:0≤i)(h1:i<n):∃ad A0 c0,A=some ad∧w.cell? (ad.add i.toNat)=some (.slice A0 (rd_L4 xs i).length c0)∧(rd_L4 xs i).length≤c0∧k76.C w A0 (rd_L4 xs i).length (rd_L4 xs i):=by
  obtain⟨ad,c,e,_,hK,hc0⟩:=Kd.C_get h ([]:List S76) i h0 h1
  have hc:∀j u,c[j]? =some u→w.cell? (ad.add (i.toNat*1+j))=some u:=hc0
  obtain⟨A0,c0,rfl,l0,g0⟩:=hK
  exact⟨ad,A0,c0,e,by have hq:=hc 0 _ rfl;rwa[Nat.mul_one,Nat.add_zero]at hq,l0,g0⟩
structure S56 where
  f0:(List S76)
  f1:Int
def z56:S56:=⟨([]:List S76),(0:Int)⟩
def k56:Kd S56:=Kd.iso (Kd.pair (Kd.slice 76 k76) (Kd.int .i64)) (fun x:S56=>(x.f0,x.f1))
theorem k56_heap:Kd.Heap k56:=Kd.heap_iso _ (Kd.heap_pair (Kd.heap_slice 76 k76_heap) (Kd.heap_int .i64))
theorem k56_open {w:World}{x:S56}{cs:List Value}(h:k56.K w x cs):∃A0 c0,cs=[.slice A0 x.f0.length c0,.int .i64 x.f1]∧x.f0.length≤c0∧k76.C w A0 x.f0.length x.f0:=by
  obtain⟨_,_,rfl,⟨A0,c0,rfl,l0,g0⟩,rfl⟩:=h
  exact⟨A0,c0,rfl,l0,g0⟩
theorem k56_openM {w:World}{base:Nat}{ok:Nat→Prop}{x:S56}{cs:List Value}(h:k56.M w base ok x cs):∃v0,cs=[v0,.int .i64 x.f1]∧k76.R 76 w base ok v0 x.f0:=by
  obtain⟨_,_,rfl,⟨v0,rfl,g0⟩,rfl⟩:=h
  exact⟨v0,rfl,g0⟩
theorem k56_mk (w:World)(x:S56){A0:Option Addr}{c0:Nat}(l0:x.f0.length≤c0)(g0:k76.C w A0 x.f0.length x.f0):k56.K w x [.slice A0 x.f0.length c0,.int .i64 x.f1]:=⟨[.slice A0 x.f0.length c0],[.int .i64 x.f1],rfl,⟨A0,c0,rfl,l0,g0⟩,rfl⟩
theorem k56_mkM (w:World)(base:Nat)(ok:Nat→Prop)(x:S56){v0:Value}(g0:k76.R 76 w base ok v0 x.f0):k56.M w base ok x [v0,.int .i64 x.f1]:=⟨[v0],[.int .i64 x.f1],rfl,⟨v0,rfl,g0⟩,rfl⟩
theorem k56_openF {W:World}{ok:Nat→Prop}{x:S56}{cs:List Value}(h:Kd.FK k56 W ok x cs):∃A0 c0,cs=[.slice A0 x.f0.length c0,.int .i64 x.f1]∧x.f0.length≤c0∧Kd.F k76 W ok A0 x.f0.length x.f0:=by
  obtain⟨A0,c0,rfl,l0,_⟩:=k56_open (Kd.FK_now h)
  exact⟨A0,c0,rfl,l0,(fun W' hW=>by obtain⟨A0_,c0_,he,l0_,g0_⟩:=k56_open (h W' hW);injection (Option.some.inj (show some (Value.slice A0 x.f0.length c0)=some (Value.slice A0_ x.f0.length c0_)from congrArg (fun l=>l[0]?) he))with ha_ _ _;rw[ha_];exact g0_)⟩
theorem k56_mkF (W:World)(ok:Nat→Prop)(x:S56){A0:Option Addr}{c0:Nat}(l0:x.f0.length≤c0)(g0:Kd.F k76 W ok A0 x.f0.length x.f0):Kd.FK k56 W ok x [.slice A0 x.f0.length c0,.int .i64 x.f1]:=fun W2 hW=>k56_mk W2 x l0 (g0 W2 hW)
def rd_T56 (xs:List S56)(i:Int):S56:=xs.getD i.toNat z56
theorem at_T56 {w:World}{A:Option Addr}{n:Nat}{xs:List S56}(h:Kd.C k56 w A n xs)(i:Int)(h0:0≤i)(h1:i<n):∃ad A0 c0,A=some ad∧w.cell? (ad.add (i.toNat*2))=some (.slice A0 (rd_T56 xs i).f0.length c0)∧w.cell? ⟨(ad.add (i.toNat*2)).block,(ad.add (i.toNat*2)).off+1,none⟩=some (.int .i64 (rd_T56 xs i).f1)∧(rd_T56 xs i).f0.length≤c0∧k76.C w A0 (rd_T56 xs i).f0.length (rd_T56 xs i).f0:=by
  obtain⟨ad,c,e,_,hK,hc0⟩:=Kd.C_get h z56 i h0 h1
  have hc:∀j u,c[j]? =some u→w.cell? (ad.add (i.toNat*2+j))=some u:=hc0
  obtain⟨A0,c0,rfl,l0,g0⟩:=k56_open hK
  exact⟨ad,A0,c0,e,hc 0 _ rfl,by rw[←add_field _ _ 1 (by omega)];exact hc 1 _ rfl,l0,g0⟩
structure S77 where
  f0:ByteArray
  f1:Int
  f2:Bool
def z77:S77:=⟨(⟨#[]⟩:ByteArray),(0:Int),false⟩
def k77:Kd S77:=Kd.iso (Kd.pair Kd.string (Kd.pair (Kd.int .i64) Kd.bool)) (fun x:S77=>(x.f0,x.f1,x.f2))
theorem k77_heap:Kd.Heap k77:=Kd.heap_iso _ (Kd.heap_pair Kd.heap_string (Kd.heap_pair (Kd.heap_int .i64) Kd.heap_bool))
theorem k77_open {w:World}{x:S77}{cs:List Value}(h:k77.K w x cs):cs=[.string x.f0,.int .i64 x.f1,.bool x.f2]:=by
  obtain⟨_,_,rfl,rfl,⟨_,_,rfl,rfl,rfl⟩⟩:=h
  exact rfl
theorem k77_openM {w:World}{base:Nat}{ok:Nat→Prop}{x:S77}{cs:List Value}(h:k77.M w base ok x cs):cs=[.string x.f0,.int .i64 x.f1,.bool x.f2]:=by
  obtain⟨_,_,rfl,rfl,⟨_,_,rfl,rfl,rfl⟩⟩:=h
  exact rfl
theorem k77_mk (w:World)(x:S77):k77.K w x [.string x.f0,.int .i64 x.f1,.bool x.f2]:=⟨[.string x.f0],[.int .i64 x.f1,.bool x.f2],rfl,rfl,⟨[.int .i64 x.f1],[.bool x.f2],rfl,rfl,rfl⟩⟩
theorem k77_mkM (w:World)(base:Nat)(ok:Nat→Prop)(x:S77):k77.M w base ok x [.string x.f0,.int .i64 x.f1,.bool x.f2]:=⟨[.string x.f0],[.int .i64 x.f1,.bool x.f2],rfl,rfl,⟨[.int .i64 x.f1],[.bool x.f2],rfl,rfl,rfl⟩⟩
theorem k77_mkF (W:World)(ok:Nat→Prop)(x:S77):Kd.FK k77 W ok x [.string x.f0,.int .i64 x.f1,.bool x.f2]:=fun W2 _=>k77_mk W2 x
def rd_T77 (xs:List S77)(i:Int):S77:=xs.getD i.toNat z77
theorem at_T77 {w:World}{A:Option Addr}{n:Nat}{xs:List S77}(h:Kd.C k77 w A n xs)(i:Int)(h0:0≤i)(h1:i<n):∃ad,A=some ad∧w.cell? (ad.add (i.toNat*3))=some (.string (rd_T77 xs i).f0)∧w.cell? ⟨(ad.add (i.toNat*3)).block,(ad.add (i.toNat*3)).off+1,none⟩=some (.int .i64 (rd_T77 xs i).f1)∧w.cell? ⟨(ad.add (i.toNat*3)).block,(ad.add (i.toNat*3)).off+2,none⟩=some (.bool (rd_T77 xs i).f2):=by
  obtain⟨ad,c,e,_,hK,hc0⟩:=Kd.C_get h z77 i h0 h1
  have hc:∀j u,c[j]? =some u→w.cell? (ad.add (i.toNat*3+j))=some u:=hc0
  obtain rfl:=k77_open hK
  exact⟨ad,e,hc 0 _ rfl,by rw[←add_field _ _ 1 (by omega)];exact hc 1 _ rfl,by rw[←add_field _ _ 2 (by omega)];exact hc 2 _ rfl⟩
def rd_L7 (xs:List (List S77))(i:Int):(List S77):=xs.getD i.toNat ([]:List S77)
theorem at_L7 {w:World}{A:Option Addr}{n:Nat}{xs:List (List S77)}(h:Kd.C (Kd.slice 77 k77) w A n xs)(i:Int)(h0:0≤i)(h1:i<n):∃ad A0 c0,A=some ad∧w.cell? (ad.add i.toNat)=some (.slice A0 (rd_L7 xs i).length c0)∧(rd_L7 xs i).length≤c0∧k77.C w A0 (rd_L7 xs i).length (rd_L7 xs i):=by
  obtain⟨ad,c,e,_,hK,hc0⟩:=Kd.C_get h ([]:List S77) i h0 h1
  have hc:∀j u,c[j]? =some u→w.cell? (ad.add (i.toNat*1+j))=some u:=hc0
  obtain⟨A0,c0,rfl,l0,g0⟩:=hK
  exact⟨ad,A0,c0,e,by have hq:=hc 0 _ rfl;rwa[Nat.mul_one,Nat.add_zero]at hq,l0,g0⟩
structure S74 where
  f0:(List S77)
  f1:Int
def z74:S74:=⟨([]:List S77),(0:Int)⟩
def k74:Kd S74:=Kd.iso (Kd.pair (Kd.slice 77 k77) (Kd.int .i64)) (fun x:S74=>(x.f0,x.f1))
theorem k74_heap:Kd.Heap k74:=Kd.heap_iso _ (Kd.heap_pair (Kd.heap_slice 77 k77_heap) (Kd.heap_int .i64))
theorem k74_open {w:World}{x:S74}{cs:List Value}(h:k74.K w x cs):∃A0 c0,cs=[.slice A0 x.f0.length c0,.int .i64 x.f1]∧x.f0.length≤c0∧k77.C w A0 x.f0.length x.f0:=by
  obtain⟨_,_,rfl,⟨A0,c0,rfl,l0,g0⟩,rfl⟩:=h
  exact⟨A0,c0,rfl,l0,g0⟩
theorem k74_openM {w:World}{base:Nat}{ok:Nat→Prop}{x:S74}{cs:List Value}(h:k74.M w base ok x cs):∃v0,cs=[v0,.int .i64 x.f1]∧k77.R 77 w base ok v0 x.f0:=by
  obtain⟨_,_,rfl,⟨v0,rfl,g0⟩,rfl⟩:=h
  exact⟨v0,rfl,g0⟩
theorem k74_mk (w:World)(x:S74){A0:Option Addr}{c0:Nat}(l0:x.f0.length≤c0)(g0:k77.C w A0 x.f0.length x.f0):k74.K w x [.slice A0 x.f0.length c0,.int .i64 x.f1]:=⟨[.slice A0 x.f0.length c0],[.int .i64 x.f1],rfl,⟨A0,c0,rfl,l0,g0⟩,rfl⟩
theorem k74_mkM (w:World)(base:Nat)(ok:Nat→Prop)(x:S74){v0:Value}(g0:k77.R 77 w base ok v0 x.f0):k74.M w base ok x [v0,.int .i64 x.f1]:=⟨[v0],[.int .i64 x.f1],rfl,⟨v0,rfl,g0⟩,rfl⟩
theorem k74_openF {W:World}{ok:Nat→Prop}{x:S74}{cs:List Value}(h:Kd.FK k74 W ok x cs):∃A0 c0,cs=[.slice A0 x.f0.length c0,.int .i64 x.f1]∧x.f0.length≤c0∧Kd.F k77 W ok A0 x.f0.length x.f0:=by
  obtain⟨A0,c0,rfl,l0,_⟩:=k74_open (Kd.FK_now h)
  exact⟨A0,c0,rfl,l0,(fun W' hW=>by obtain⟨A0_,c0_,he,l0_,g0_⟩:=k74_open (h W' hW);injection (Option.some.inj (show some (Value.slice A0 x.f0.length c0)=some (Value.slice A0_ x.f0.length c0_)from congrArg (fun l=>l[0]?) he))with ha_ _ _;rw[ha_];exact g0_)⟩
theorem k74_mkF (W:World)(ok:Nat→Prop)(x:S74){A0:Option Addr}{c0:Nat}(l0:x.f0.length≤c0)(g0:Kd.F k77 W ok A0 x.f0.length x.f0):Kd.FK k74 W ok x [.slice A0 x.f0.length c0,.int .i64 x.f1]:=fun W2 hW=>k74_mk W2 x l0 (g0 W2 hW)
def rd_T74 (xs:List S74)(i:Int):S74:=xs.getD i.toNat z74
theorem at_T74 {w:World}{A:Option Addr}{n:Nat}{xs:List S74}(h:Kd.C k74 w A n xs)(i:Int)(h0:0≤i)(h1:i<n):∃ad A0 c0,A=some ad∧w.cell? (ad.add (i.toNat*2))=some (.slice A0 (rd_T74 xs i).f0.length c0)∧w.cell? ⟨(ad.add (i.toNat*2)).block,(ad.add (i.toNat*2)).off+1,none⟩=some (.int .i64 (rd_T74 xs i).f1)∧(rd_T74 xs i).f0.length≤c0∧k77.C w A0 (rd_T74 xs i).f0.length (rd_T74 xs i).f0:=by
  obtain⟨ad,c,e,_,hK,hc0⟩:=Kd.C_get h z74 i h0 h1
  have hc:∀j u,c[j]? =some u→w.cell? (ad.add (i.toNat*2+j))=some u:=hc0
  obtain⟨A0,c0,rfl,l0,g0⟩:=k74_open hK
  exact⟨ad,A0,c0,e,hc 0 _ rfl,by rw[←add_field _ _ 1 (by omega)];exact hc 1 _ rfl,l0,g0⟩
def rd_L9 (xs:List (List Int))(i:Int):(List Int):=xs.getD i.toNat ([]:List Int)
theorem at_L9 {w:World}{A:Option Addr}{n:Nat}{xs:List (List Int)}(h:Kd.C (Kd.slice 3 (Kd.int .i64)) w A n xs)(i:Int)(h0:0≤i)(h1:i<n):∃ad A0 c0,A=some ad∧w.cell? (ad.add i.toNat)=some (.slice A0 (rd_L9 xs i).length c0)∧(rd_L9 xs i).length≤c0∧(Kd.int .i64).C w A0 (rd_L9 xs i).length (rd_L9 xs i):=by
  obtain⟨ad,c,e,_,hK,hc0⟩:=Kd.C_get h ([]:List Int) i h0 h1
  have hc:∀j u,c[j]? =some u→w.cell? (ad.add (i.toNat*1+j))=some u:=hc0
  obtain⟨A0,c0,rfl,l0,g0⟩:=hK
  exact⟨ad,A0,c0,e,by have hq:=hc 0 _ rfl;rwa[Nat.mul_one,Nat.add_zero]at hq,l0,g0⟩
structure S68 where
  f0:ByteArray
  f1:Int
def z68:S68:=⟨(⟨#[]⟩:ByteArray),(0:Int)⟩
def k68:Kd S68:=Kd.iso (Kd.pair Kd.string (Kd.int .i64)) (fun x:S68=>(x.f0,x.f1))
theorem k68_heap:Kd.Heap k68:=Kd.heap_iso _ (Kd.heap_pair Kd.heap_string (Kd.heap_int .i64))
theorem k68_open {w:World}{x:S68}{cs:List Value}(h:k68.K w x cs):cs=[.string x.f0,.int .i64 x.f1]:=by
  obtain⟨_,_,rfl,rfl,rfl⟩:=h
  exact rfl
theorem k68_openM {w:World}{base:Nat}{ok:Nat→Prop}{x:S68}{cs:List Value}(h:k68.M w base ok x cs):cs=[.string x.f0,.int .i64 x.f1]:=by
  obtain⟨_,_,rfl,rfl,rfl⟩:=h
  exact rfl
theorem k68_mk (w:World)(x:S68):k68.K w x [.string x.f0,.int .i64 x.f1]:=⟨[.string x.f0],[.int .i64 x.f1],rfl,rfl,rfl⟩
theorem k68_mkM (w:World)(base:Nat)(ok:Nat→Prop)(x:S68):k68.M w base ok x [.string x.f0,.int .i64 x.f1]:=⟨[.string x.f0],[.int .i64 x.f1],rfl,rfl,rfl⟩
theorem k68_mkF (W:World)(ok:Nat→Prop)(x:S68):Kd.FK k68 W ok x [.string x.f0,.int .i64 x.f1]:=fun W2 _=>k68_mk W2 x
def rd_T68 (xs:List S68)(i:Int):S68:=xs.getD i.toNat z68
theorem at_T68 {w:World}{A:Option Addr}{n:Nat}{xs:List S68}(h:Kd.C k68 w A n xs)(i:Int)(h0:0≤i)(h1:i<n):∃ad,A=some ad∧w.cell? (ad.add (i.toNat*2))=some (.string (rd_T68 xs i).f0)∧w.cell? ⟨(ad.add (i.toNat*2)).block,(ad.add (i.toNat*2)).off+1,none⟩=some (.int .i64 (rd_T68 xs i).f1):=by
  obtain⟨ad,c,e,_,hK,hc0⟩:=Kd.C_get h z68 i h0 h1
  have hc:∀j u,c[j]? =some u→w.cell? (ad.add (i.toNat*2+j))=some u:=hc0
  obtain rfl:=k68_open hK
  exact⟨ad,e,hc 0 _ rfl,by rw[←add_field _ _ 1 (by omega)];exact hc 1 _ rfl⟩
structure S100 where
  f0:ByteArray
  f1:Int
def z100:S100:=⟨(⟨#[]⟩:ByteArray),(0:Int)⟩
def k100:Kd S100:=Kd.iso (Kd.pair Kd.string (Kd.int .i64)) (fun x:S100=>(x.f0,x.f1))
theorem k100_heap:Kd.Heap k100:=Kd.heap_iso _ (Kd.heap_pair Kd.heap_string (Kd.heap_int .i64))
theorem k100_open {w:World}{x:S100}{cs:List Value}(h:k100.K w x cs):cs=[.string x.f0,.int .i64 x.f1]:=by
  obtain⟨_,_,rfl,rfl,rfl⟩:=h
  exact rfl
theorem k100_openM {w:World}{base:Nat}{ok:Nat→Prop}{x:S100}{cs:List Value}(h:k100.M w base ok x cs):cs=[.string x.f0,.int .i64 x.f1]:=by
  obtain⟨_,_,rfl,rfl,rfl⟩:=h
  exact rfl
theorem k100_mk (w:World)(x:S100):k100.K w x [.string x.f0,.int .i64 x.f1]:=⟨[.string x.f0],[.int .i64 x.f1],rfl,rfl,rfl⟩
theorem k100_mkM (w:World)(base:Nat)(ok:Nat→Prop)(x:S100):k100.M w base ok x [.string x.f0,.int .i64 x.f1]:=⟨[.string x.f0],[.int .i64 x.f1],rfl,rfl,rfl⟩
theorem k100_mkF (W:World)(ok:Nat→Prop)(x:S100):Kd.FK k100 W ok x [.string x.f0,.int .i64 x.f1]:=fun W2 _=>k100_mk W2 x
def rd_T100 (xs:List S100)(i:Int):S100:=xs.getD i.toNat z100
theorem at_T100 {w:World}{A:Option Addr}{n:Nat}{xs:List S100}(h:Kd.C k100 w A n xs)(i:Int)(h0:0≤i)(h1:i<n):∃ad,A=some ad∧w.cell? (ad.add (i.toNat*2))=some (.string (rd_T100 xs i).f0)∧w.cell? ⟨(ad.add (i.toNat*2)).block,(ad.add (i.toNat*2)).off+1,none⟩=some (.int .i64 (rd_T100 xs i).f1):=by
  obtain⟨ad,c,e,_,hK,hc0⟩:=Kd.C_get h z100 i h0 h1
  have hc:∀j u,c[j]? =some u→w.cell? (ad.add (i.toNat*2+j))=some u:=hc0
  obtain rfl:=k100_open hK
  exact⟨ad,e,hc 0 _ rfl,by rw[←add_field _ _ 1 (by omega)];exact hc 1 _ rfl⟩
theorem eqA68 (d:Nat)(w:World)(x0 y0:ByteArray)(x1 y1:Int):
    (Op.equalIn (d+2) 68 (.agg #[.string x0,.int .i64 x1]) (.agg #[.string y0,.int .i64 y1])).run Try.prog w=.ok (x0.toList==y0.toList && (x1==y1)) w:=by
  refine eqA_of Try.underlying68 (by kernel_rfl) ?_
  refine eqf_cons (by rfl) (by go_simp;rfl) (by go_simp;rfl) (by go_simp) ?_
  exact eqf_last (by rfl) (by go_simp;rfl) (by go_simp;rfl) (by go_simp)
theorem eqA77 (d:Nat)(w:World)(x0 y0:ByteArray)(x1 y1:Int)(x2 y2:Bool):
    (Op.equalIn (d+2) 77 (.agg #[.string x0,.int .i64 x1,.bool x2]) (.agg #[.string y0,.int .i64 y1,.bool y2])).run Try.prog w=.ok (x0.toList==y0.toList && (x1==y1 && (x2==y2))) w:=by
  refine eqA_of Try.underlying77 (by kernel_rfl) ?_
  refine eqf_cons (by rfl) (by go_simp;rfl) (by go_simp;rfl) (by go_simp) ?_
  refine eqf_cons (by rfl) (by go_simp;rfl) (by go_simp;rfl) (by go_simp) ?_
  exact eqf_last (by rfl) (by go_simp;rfl) (by go_simp;rfl) (by go_simp)
end Go.Proofs.Ytljmjjeghebdpaa.PElasticTurns
