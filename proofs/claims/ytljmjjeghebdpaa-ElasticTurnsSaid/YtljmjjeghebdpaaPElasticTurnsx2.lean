/- Functions, each as a plain function, with the proof that a call comes to its answer. Condition of each: the arguments read as the data that it names, and the plain function has an answer. -/
import Derived.Test.YtljmjjeghebdpaaPElasticTurnsx0
import Derived.Test.YtljmjjeghebdpaaShort
import Derived.Lib.SliceRun
import Derived.Shelf.Abstract
import Derived.Test.YtljmjjeghebdpaaPressMore
import Derived.Test.YtljmjjeghebdpaaPElasticTurnsx1
namespace Go.Proofs.Ytljmjjeghebdpaa.PElasticTurns
open Go.RowKit Go.Proofs.YtljmjjeghebdpaaW.PrintWords Go.Proofs.YtljmjjeghebdpaaW.PrintLast Go.Proofs.YtljmjjeghebdpaaW.PrintMore Go.Proofs.Ytljmjjeghebdpaa.Short Go.Proofs.Ytljmjjeghebdpaa.Press Go.Proofs.Ytljmjjeghebdpaa.PressMore
set_option maxHeartbeats 80000000
set_option maxRecDepth 100000
attribute [local go_sem] max2_int min2_int max_two min_two max_three min_three max_four min_four
set_option linter.unusedVariables false
set_option linter.unusedSimpArgs false
def field_Of.f (a0:Int):Option (Int):=if(IntKind.u64.wrap ((Go.bits .and .u64 a0 2305843009213693951)+(a0/2305843009213693952)))≥2305843009213693951 then(some (IntKind.u64.wrap ((IntKind.u64.wrap ((Go.bits .and .u64 a0 2305843009213693951)+(a0/2305843009213693952)))-2305843009213693951)))else(some (IntKind.u64.wrap ((Go.bits .and .u64 a0 2305843009213693951)+(a0/2305843009213693952))))
theorem field_Of.calls (a0 r:Int)(w:World)(h:field_Of.f a0=some r):
    Calls Try.prog 79 #[.int .u64 a0] w fun e w'=>e=.returned (.int .u64 r)∧Drawn0 w w':=by
 have H:=h;clear h;unfold field_Of.f at H
 by_cases c2:(IntKind.u64.wrap ((Go.bits .and .u64 a0 2305843009213693951)+(a0/2305843009213693952)))≥2305843009213693951
 ·rw[if_pos c2]at H;have aA:decide (2305843009213693951≤(IntKind.u64.wrap ((Go.bits .and .u64 a0 2305843009213693951)+(a0/2305843009213693952))))=true:=decide_eq_true c2;clear c2;obtain rfl:=Option.some.inj H
  go_enter Try.func79,Try.ntmps79
  go_wp2
  go_ret;exact⟨by first|rfl|(simp;done)|(simp[*];done),by repeat(first|exact Drawn0.refl _|apply Drawn0.step)⟩
 ·rw[if_neg c2]at H;have aA:decide (2305843009213693951≤(IntKind.u64.wrap ((Go.bits .and .u64 a0 2305843009213693951)+(a0/2305843009213693952))))=false:=decide_eq_false c2;clear c2;obtain rfl:=Option.some.inj H
  go_enter Try.func79,Try.ntmps79
  go_wp2
  go_ret;exact⟨by first|rfl|(simp;done)|(simp[*];done),by repeat(first|exact Drawn0.refl _|apply Drawn0.step)⟩
def field_Add.f (a0 a1:Int):Option (Int):=(field_Of.f a0).bind fun t131=>((field_Of.f a1).bind fun t132=>((field_Of.f (IntKind.u64.wrap (t131+t132))).bind fun t133=>(some t133)))
theorem field_Add.calls (a0 a1 r:Int)(w:World)(h:field_Add.f a0 a1=some r):
    Calls Try.prog 67 #[.int .u64 a0,.int .u64 a1] w fun e w'=>e=.returned (.int .u64 r)∧Drawn0 w w':=by
 have H:=h;clear h;unfold field_Add.f at H;replace H:=bi_ H;obtain⟨aC,A3,H⟩:=H;replace H:=bi_ H;obtain⟨aA,A4,H⟩:=H;replace H:=bi_ H;obtain⟨aB,A5,H⟩:=H;obtain rfl:=Option.some.inj H
 go_enter Try.func67,Try.ntmps67
 go_wp2_with (first|(refine gk_ 79 ?_;refine gd_ (some 6) Try.func79 (field_Of.calls a0 aC _ A3.out) ?_;rintro w' ⟨nd,rfl⟩)|(refine gk_ 79 ?_;refine gd_ (some 8) Try.func79 (field_Of.calls a1 aA _ A4.out) ?_;rintro w' ⟨nd,rfl⟩)|(refine gk_ 79 ?_;refine gd_ (some 10) Try.func79 (field_Of.calls (IntKind.u64.wrap (aC+aA)) aB _ A5.out) ?_;rintro w' ⟨nd,rfl⟩))
 go_ret;exact⟨by first|rfl|(simp;done)|(simp[*];done),by repeat(first|exact Drawn0.refl _|apply Drawn0.step)⟩
def bits_Mul64.f (a0 a1:Int):Option (Int × Int):=some (IntKind.u64.wrap ((IntKind.u64.wrap ((IntKind.u64.wrap ((a0/4294967296)*(a1/4294967296)))+((IntKind.u64.wrap ((IntKind.u64.wrap ((a0/4294967296)*(Go.bits .and .u64 a1 4294967295)))+((IntKind.u64.wrap ((Go.bits .and .u64 a0 4294967295)*(Go.bits .and .u64 a1 4294967295)))/4294967296)))/4294967296)))+((IntKind.u64.wrap ((Go.bits .and .u64 (IntKind.u64.wrap ((IntKind.u64.wrap ((a0/4294967296)*(Go.bits .and .u64 a1 4294967295)))+((IntKind.u64.wrap ((Go.bits .and .u64 a0 4294967295)*(Go.bits .and .u64 a1 4294967295)))/4294967296))) 4294967295)+(IntKind.u64.wrap ((Go.bits .and .u64 a0 4294967295)*(a1/4294967296)))))/4294967296)),IntKind.u64.wrap (a0*a1))
theorem bits_Mul64.calls (a0 a1 r1 r2:Int)(w:World)(h:bits_Mul64.f a0 a1=some (r1,r2)):
    Calls Try.prog 80 #[.int .u64 a0,.int .u64 a1] w fun e w'=>e=.returned (.tuple #[.int .u64 r1,.int .u64 r2])∧Drawn0 w w':=by
 have H:=h;clear h;unfold bits_Mul64.f at H;simp only[Option.some.injEq,Prod.mk.injEq]at H;obtain⟨rfl,rfl⟩:=H
 go_enter Try.func80,Try.ntmps80
 go_wp2
 go_ret2
 exact⟨by first|rfl|(simp;done)|(simp[*];done),by repeat(first|exact Drawn0.refl _|apply Drawn0.step)⟩
def field_Mul.f (a0 a1:Int):Option (Int):=(field_Of.f a0).bind fun t134=>((field_Of.f a1).bind fun t135=>((bits_Mul64.f t134 t135).bind fun bt136=>((field_Of.f (IntKind.u64.wrap ((Go.bits .and .u64 bt136.2 2305843009213693951)+(Go.bits .or .u64 (bt136.2/2305843009213693952) (IntKind.u64.wrap (bt136.1*8)))))).bind fun t138=>(some t138))))
theorem field_Mul.calls (a0 a1 r:Int)(w:World)(h:field_Mul.f a0 a1=some r):
    Calls Try.prog 68 #[.int .u64 a0,.int .u64 a1] w fun e w'=>e=.returned (.int .u64 r)∧Drawn0 w w':=by
 have H:=h;clear h;unfold field_Mul.f at H;replace H:=bi_ H;obtain⟨aC,A3,H⟩:=H;replace H:=bi_ H;obtain⟨aB,A4,H⟩:=H;replace H:=bi_ H;obtain⟨⟨aE,aD⟩,A5,H⟩:=H;dsimp only at H
 replace H:=bi_ H;obtain⟨aA,A6,H⟩:=H;obtain rfl:=Option.some.inj H
 go_enter Try.func68,Try.ntmps68
 go_wp2_with (first|(refine gk_ 79 ?_;refine gd_ (some 9) Try.func79 (field_Of.calls a0 aC _ A3.out) ?_;rintro w' ⟨nd,rfl⟩)|(refine gk_ 79 ?_;refine gd_ (some 11) Try.func79 (field_Of.calls a1 aB _ A4.out) ?_;rintro w' ⟨nd,rfl⟩)|(refine gk_ 80 ?_;refine gd_ (some 12) Try.func80 (bits_Mul64.calls aC aB aE aD _ A5.out) ?_;rintro w' ⟨nd,rfl⟩)|(refine gk_ 79 ?_;refine gd_ (some 23) Try.func79 (field_Of.calls (IntKind.u64.wrap ((Go.bits .and .u64 aD 2305843009213693951)+(Go.bits .or .u64 (aD/2305843009213693952) (IntKind.u64.wrap (aE*8))))) aA _ A6.out) ?_;rintro w' ⟨nd,rfl⟩))
 go_ret;exact⟨by first|rfl|(simp;done)|(simp[*];done),by repeat(first|exact Drawn0.refl _|apply Drawn0.step)⟩
def hash_Row.f (a0 a1:Int):Option (Int):=(field_Add.f a0 3).bind fun t139=>((field_Add.f (IntKind.u64.wrap (mx a1 0)) 2).bind fun t140=>((field_Mul.f t139 t140).bind fun t141=>((field_Add.f t141 5).bind fun t142=>((field_Mul.f t142 t142).bind fun t143=>(some t143)))))
theorem hash_Row.calls (a0 a1 r:Int)(w:World)(h:hash_Row.f a0 a1=some r):
    Calls Try.prog 43 #[.int .u64 a0,.int .i64 a1] w fun e w'=>e=.returned (.int .u64 r)∧Below w.heap.size w w':=by
 have HB:=mk_ (Below.refl w.heap.size w);have H:=h;clear h;unfold hash_Row.f at H;replace H:=bi_ H;obtain⟨aE,A3,H⟩:=H;obtain⟨ji4,hji4⟩:∃j_:Int,(mx a1 0)=j_:=⟨_,rfl⟩
 (first|rw[hji4]at H|simp only[hji4]at H)
 (try rw[hji4]at A3);(try(have hji4l:0≤ji4:=by(rw[←hji4];unfold mx;(repeat' split)<;>omega)));(try(have hji4m:0≤ji4:=by omega));have hji4_:(if a1<0 then 0 else a1)=ji4:=hji4;replace H:=bi_ H;obtain⟨aD,A5,H⟩:=H;replace H:=bi_ H;obtain⟨aC,A6,H⟩:=H;replace H:=bi_ H;obtain⟨aA,A7,H⟩:=H;replace H:=bi_ H;obtain⟨aB,A8,H⟩:=H;obtain rfl:=Option.some.inj H
 go_enter Try.func43,Try.ntmps43
 go_wp2_with (first|(refine gk_ 67 ?_;refine gd_ (some 7) Try.func67 (field_Add.calls a0 3 aE _ A3.out) ?_;rintro w' ⟨nd,rfl⟩)|(refine gk_ 67 ?_;refine gd_ (some 11) Try.func67 (field_Add.calls (IntKind.u64.wrap (ji4)) 2 aD _ A5.out) ?_ (hargs:=by(try simp only[List.map_toArray,List.map_cons,List.map_nil]);first|(simp only[hji4];rfl)|rfl);rintro w' ⟨nd,rfl⟩)|(refine gk_ 68 ?_;refine gd_ (some 12) Try.func68 (field_Mul.calls aE aD aC _ A6.out) ?_;rintro w' ⟨nd,rfl⟩)|(refine gk_ 67 ?_;refine gd_ (some 13) Try.func67 (field_Add.calls aC 5 aA _ A7.out) ?_;rintro w' ⟨nd,rfl⟩)|(refine gk_ 68 ?_;refine gd_ (some 16) Try.func68 (field_Mul.calls aA aA aB _ A8.out) ?_;rintro w' ⟨nd,rfl⟩))
 go_ret;exact⟨by first|rfl|(simp[errW_none,errW_some]<;>rfl)|(simp only[←hji4];first|rfl|(simp[errW_none,errW_some]<;>rfl))|(simp[*,errW_none,errW_some]<;>rfl),bl_ HB⟩
def elastic_find.go (key:ByteArray):List S76→Nat→Int
  |[],_=> -1
  |y::l,i=>if y.f0.toList=key.toList then(i:Int)else elastic_find.go key l (i+1)
def elastic_find.f (l0_0:List (S76))(a0_1:Int)(a1:ByteArray):Option (Int):=if l0_0.length≤9223372036854775807 then some (elastic_find.go a1 l0_0 0)else none
theorem elastic_find.lit (y:S76)(B:Nat)(key:ByteArray)(b:Bool)(w:World)(hbox:w.heap[B]? =some (.cells #[.string key] 9 (0,0)))(hb:b=decide (y.f0.toList=key.toList)):
    Calls Try.prog 57 #[.agg #[.string y.f0,.int .i64 y.f1,.bool y.f2],.pointer (some ⟨B,0,none⟩)] w fun e w'=>e=.returned (.bool b)∧Below w.heap.size w w':=by
  have hu_:=Try.underlying76
  have hu9_:=Try.underlying9
  have HB:=Aside0.mk (Below.refl w.heap.size w)
  have hc:w.cell? ⟨B,0,none⟩=some (.string key):=(blk_cell hbox 0).trans rfl
  have hlt:=blk_lt hbox
  clear hbox
  obtain⟨f0,f1,f2⟩:=y
  simp only at hb
  have e_:(f0.toList==key.toList)=b:=by rw[hb];by_cases h:f0.toList=key.toList<;>simp[h]
  have d_:decide (f0.toList=key.toList)=b:=hb.symm
  clear hb
  go_enter Try.func57,Try.ntmps57
  go_wp2_with (first|(refine gq_ 2 ?_;refine bx_ 2 #[.string f0,.int .i64 f1,.bool f2] 76 ?_;intro gb hg w2 hbox hb;have n0_:=Aside0.mk (below_step (bl_ HB) hb);have BK:=Aside0.mk hbox;have hcz_0:w2.cell? ⟨gb,0,none⟩=some (.string f0):=(blk_cell BK.out 0).trans rfl;have hcz_1:w2.cell? ⟨gb,1,none⟩=some (.int .i64 f1):=(blk_cell BK.out 1).trans rfl;have hcz_2:w2.cell? ⟨gb,2,none⟩=some (.bool f2):=(blk_cell BK.out 2).trans rfl;have hfz_0:=blk_frozen BK.out 0;have hky:w2.cell? ⟨B,0,none⟩=some (.string key):=(n0_.out.cell hlt).trans hc;clear HB;have HB:=n0_;clear n0_;clear hb hbox hg))
  go_ret
  exact⟨by first|rfl|(simp;done)|(simp[*];done),bl_ HB⟩
theorem elastic_find.drop_cons (l:List S76)(k:Nat)(h:k<l.length):l.drop k=rd_T76 l (k:Int) ::l.drop (k+1):=by
  rw[List.drop_eq_getElem_cons h]
  simp[rd_T76,List.getD_eq_getElem?_getD,h]
theorem elastic_find.index (B:Nat)(key:ByteArray)(A:Option Addr)(c:Nat)(l:List S76)(r:Int)(w:World)(hbox:w.heap[B]? =some (.cells #[.string key] 9 (0,0)))
    (hr:Kd.C k76 w A l.length l) (hlen:l.length≤9223372036854775807) (h:elastic_find.go key l 0=r):
    Calls Try.prog 56 #[.slice A l.length c,.func (.func 57) #[] #[.pointer (some ⟨B,0,none⟩)]] w fun e w'=>e=.returned (.int .i64 r)∧Below w.heap.size w w':=by
  have HR:=Aside0.mk hr
  have HX:=Aside0.mk hbox
  have H0:=Aside0.mk h
  clear hr hbox h
  have hu_:=Try.underlying76
  have e31_:∀(args:Array Value)(w:World),(callFunc 57 args).run Try.prog w=.ok (.enter 57 args) w:=fun args w=>enters_ Try.func57 (by kernel_rfl) rfl args w
  go_enter Try.func56,Try.ntmps56
  go_wp2
  go_loopg [5,8] l.length (fun gg _ s8 wr=>∃kk:Nat,kk≤l.length∧l.length-kk≤gg∧s8=.int .i64 kk∧Aside0 (Below w.heap.size w wr)∧Aside0 (elastic_find.go key (l.drop kk) kk=r))
  case atStart=>exact⟨0,Nat.zero_le _,by omega,rfl,⟨Below.refl _ w⟩,⟨by rw[List.drop_zero];exact H0.out⟩⟩
  case round=>
    obtain⟨kk,hkk,hg,rfl,BW,HA⟩:=hrel
    by_cases hlt:kk<l.length
    · have h2:=HA.out
      rw[elastic_find.drop_cons l kk hlt,elastic_find.go]at h2
      have hltz:(kk:Int)<(l.length:Int):=by omega
      have hk0:(0:Int)≤(kk:Int):=by omega
      obtain⟨ad,e,hx0,hx1,hx2⟩:=at_T76 HR.out (kk:Int) hk0 hltz
      cases e
      have hx0':=(BW.out.cell (World.block_lt_of_cell? w _ hx0)).trans hx0
      have hx1':=(BW.out.cell (World.block_lt_of_cell? w _ hx1)).trans hx1
      have hx2':=(BW.out.cell (World.block_lt_of_cell? w _ hx2)).trans hx2
      clear hx0 hx1 hx2
      simp only[Int.toNat_natCast]at hx0' hx1' hx2'
      obtain⟨b,hb⟩:∃b,b=decide ((rd_T76 l (kk:Int)).f0.toList=key.toList):=⟨_,rfl⟩
      have hcall:=elastic_find.lit (rd_T76 l (kk:Int)) B key b wr (blk_below HX.out BW.out) hb
      generalize rd_T76 l (kk:Int)=y at *
      cases b with
      |true=>
        rw[if_pos (of_decide_eq_true hb.symm)]at h2
        subst h2
        clear hb
        go_wp2_with (go_at_fn 57;refine hcall.mono ?_;rintro e w' ⟨rfl,hb'⟩)
        go_ret
        exact⟨rfl,BW.out.trans (hb'.mono BW.out.size)⟩
      |false=>
        rw[if_neg (of_decide_eq_false hb.symm)]at h2
        have H2:=Aside0.mk h2
        clear h2 hb
        go_wp2_with (go_at_fn 57;refine hcall.mono ?_;rintro e w' ⟨rfl,hb'⟩)
        go_roundg (l.length-(kk+1))
        case measure=>omega
        case rel=>exact⟨kk+1,by omega,by omega,by go_num,⟨BW.out.trans (hb'.mono BW.out.size)⟩,H2⟩
    · have hltz:¬(kk:Int)<(l.length:Int):=by omega
      have:kk=l.length:=by omega
      subst this
      have h2:=HA.out
      rw[List.drop_length,elastic_find.go]at h2
      subst h2
      go_wp2
      go_ret
      exact⟨rfl,BW.out⟩
theorem elastic_find.calls (A0_0:Option Addr)(c0_0:Nat)(l0_0:List (S76))(a0_1:Int)(a1:ByteArray)(r:Int)(w:World)(hr0_0:Kd.C k76 w A0_0 l0_0.length l0_0)(hc0_0:l0_0.length≤c0_0)(h:elastic_find.f l0_0 a0_1 a1=some r):
    Calls Try.prog 30 #[.agg #[.slice A0_0 l0_0.length c0_0,.int .i64 a0_1],.string a1] w fun e w'=>e=.returned (.int .i64 r)∧Below w.heap.size w w':=by
 have hu_:=Try.underlying56;have HR:=mk_ hr0_0;have HC:=mk_ hc0_0;clear hr0_0 hc0_0
 unfold elastic_find.f at h
 split at h
 ·rename_i hlen
  have H:=mk_ (Option.some.inj h);clear h;have HB:=mk_ (Below.refl w.heap.size w)
  have e24_:∀(args:Array Value)(w:World),(callFunc 56 args).run Try.prog w=.ok (.enter 56 args) w:=fun args w=>enters_ Try.func56 (by kernel_rfl) rfl args w
  go_enter Try.func30,Try.ntmps30
  go_wp2_with (first|(refine gq_ 2 ?_;refine bx_ 2 #[.slice A0_0 l0_0.length c0_0,.int .i64 a0_1] 56 ?_;intro gb hgb w2 hbox hb;have BK:=mk_ hbox;replace HB:=bs_ HB hb;have hz0:w2.cell? ⟨gb,0,none⟩=some (.slice A0_0 l0_0.length c0_0):=(blk_cell hbox 0).trans rfl;clear hbox hb hgb)|(refine gq_ 3 ?_;refine bx_ 3 #[.string a1] 9 ?_;intro gk hgk w3 hbox hb;have aA:=mk_ hbox;(try have hz1:w3.cell? ⟨gb,0,none⟩=some (.slice A0_0 l0_0.length c0_0):=(blk_cell (blk_below BK.out hb) 0).trans rfl);replace HB:=bs_ HB hb;clear hbox hb hgk)|(go_at_fn 56;refine(elastic_find.index gk a1 A0_0 c0_0 l0_0 r _ (by first|exact aA.out|exact blk_drew aA.out) (by first|exact Kd.C_below HR.out HB.out|exact Kd.C_drew (Kd.C_below HR.out HB.out)) hlen H.out).mono ?_;rintro e w3 ⟨rfl,hb3⟩;have HB3:=mk_ (below_step (bl_ HB) hb3);clear hb3))
  go_ret;exact⟨rfl,bl_ HB3⟩
 ·cases h
def elastic_Bucket_right.l0:Nat→Int→List (S76)→Int→Int→List (S76)→Int→Option (Bool)
  |0,_,_,_,_,_,_=>none
  |k+1,a,b,c,d,e,g=>if d<c then(if 0≤d then(if d<(b.length:Int)then(if((rd_T76 b d).f1)<1 then(some false)else(if((rd_T76 b d).f1)>1099511627776 then(some false)else((elastic_find.f e g ((rd_T76 b d).f0)).bind fun t148=>(if t148<d then(some false)else(elastic_Bucket_right.l0 k a b c (wrap64 (d+1)) e g)))))else(none))else(none))else(if(e.length:Int)≤a then(if g≥0 then(some (decide (g≤1099511627776)))else(some false))else(some false))
def elastic_Bucket_right.f (k:Nat)(l0_0:List (S76))(a0_1 a1:Int):Option (Bool):=elastic_Bucket_right.l0 k a1 l0_0 (l0_0.length:Int) 0 l0_0 a0_1
theorem elastic_Bucket_right.mono_l:∀k,(∀y0 y1 y2 y3 y4 y5,LeO (elastic_Bucket_right.l0 k y0 y1 y2 y3 y4 y5) (elastic_Bucket_right.l0 (k+1) y0 y1 y2 y3 y4 y5))
  |0=>fun _ _ _ _ _ _ r h=>by simp[elastic_Bucket_right.l0]at h
  |k+1=>by
    have ih0:=elastic_Bucket_right.mono_l k
    · intro y0 y1 y2 y3 y4 y5
      unfold elastic_Bucket_right.l0
      repeat' with_reducible first|exact ih0 .. |exact LeO.refl _|exact LeO.none _|refine LeO.ite ?_ ?_|refine LeO.bind ?_ (fun _=>?_)
theorem elastic_Bucket_right.mono:∀a0 a1 a2 k,LeO (elastic_Bucket_right.f k a0 a1 a2) (elastic_Bucket_right.f (k+1) a0 a1 a2):=by
  intro a0 a1 a2 k
  have ih0:=elastic_Bucket_right.mono_l k
  unfold elastic_Bucket_right.f
  repeat' with_reducible first|exact ih0 .. |exact LeO.refl _|exact LeO.none _|refine LeO.ite ?_ ?_|refine LeO.bind ?_ (fun _=>?_)
theorem elastic_Bucket_right.calls (k:Nat)(A0_0:Option Addr)(c0_0:Nat)(l0_0:List (S76))(a0_1 a1:Int)(r:Bool)(w:World)(hr0_0:Kd.C k76 w A0_0 l0_0.length l0_0)(hc0_0:l0_0.length≤c0_0)(h:elastic_Bucket_right.f k l0_0 a0_1 a1=some r):
    Calls Try.prog 46 #[.agg #[.slice A0_0 l0_0.length c0_0,.int .i64 a0_1],.int .i64 a1] w fun e w'=>e=.returned (.bool r)∧Below w.heap.size w w':=by
 have hu56:=Try.underlying56;have hu76:=Try.underlying76;have aN:=mk_ hr0_0;have aY:=mk_ hc0_0;clear hr0_0 hc0_0;have HB:=mk_ (Below.refl w.heap.size w);have H:=h;clear h;unfold elastic_Bucket_right.f at H;have H':=mk_ H;clear H
 go_enter Try.func46,Try.ntmps46
 go_wp2_with (first|(refine gq_ 2 ?_;refine bx_ 2 #[.slice A0_0 l0_0.length c0_0,.int .i64 a0_1] 56 ?_;intro aE hg w3 hbox hb;have aA:=mk_ (hbox);have bM:=gx_ hg HB;have bN:=gx_ hg HB;replace HB:=bs_ HB hb;clear hb hbox hg;have:=cz2_ aA;have:=fz2_ aA))
 go_loopg [10] k (fun kq bF w'=>∃(aB:Int),bF=.int .i64 aB∧Aside0 (elastic_Bucket_right.l0 kq a1 l0_0 (l0_0.length:Int) aB l0_0 a0_1=some r)∧Aside0 (kq≤k)∧Aside0 (w'.heap[aE]? =some (.cells #[(.slice A0_0 l0_0.length c0_0),.int .i64 a0_1] 56 (0,0)))∧Aside0 (Below w.heap.size w w'))
 case atStart=>exact⟨(0),eq_,H',⟨Nat.le_refl _⟩,⟨bk_ aA⟩,⟨bl_ HB⟩⟩
 case round=>
  clear H';obtain⟨aB,rfl,HA,HK1,aA,HB⟩:=hrel
  cases gk with
  |zero=>exact absurd HA.out (by simp[elastic_Bucket_right.l0])
  |succ k1=>
   have H:=HA.out;clear HA;simp only[elastic_Bucket_right.l0]at H
   rcases ic_ H with⟨bG,h_⟩|⟨bG,h_⟩
   ·clear H;have H:=h_;clear h_;replace H:=it_ H;obtain⟨bO,H⟩:=H;replace H:=it_ H;obtain⟨bP,H⟩:=H
    rcases ic_ H with⟨bH,h_⟩|⟨bH,h_⟩
    ·clear H;have H:=h_;clear h_;obtain rfl:=Option.some.inj H;obtain⟨aF,aG,aL,e146,aH,aI,aJ⟩:=aq_ (at_T76 aN.out aB)
     cases e146;(try replace aH:=bt_ HB aH);(try replace aI:=bt_ HB aI);(try replace aJ:=bt_ HB aJ)
     go_wp2_with (first|(refine gq_ 6 ?_;refine bx_ 6 #[.string (⟨#[]⟩:ByteArray),.int .i64 0,.bool false] 76 ?_;intro aD hg w9 hbox hb;have aC:=mk_ (hbox);have aV:=gx_ hg HB;have aW:=gx_ hg HB;have aK:=nx_ hg aA;have:=aK.out;have aM:=ny_ hg aA;have:=aM.out;replace aA:=bb_ aA hb;replace HB:=bs_ HB hb;clear hb hbox hg;have:=cz3_ aC;have:=fz3_ aC))
     go_ret;exact⟨er_,bl_ HB⟩
    ·clear H;have H:=h_;clear h_
     by_cases aO:((rd_T76 l0_0 aB).f1)>1099511627776
     ·rw[if_pos aO]at H;have bI:decide (1099511627776<((rd_T76 l0_0 aB).f1))=true:=decide_eq_true aO;clear aO;obtain rfl:=Option.some.inj H;obtain⟨aF,aG,aL,e146,aH,aI,aJ⟩:=aq_ (at_T76 aN.out aB)
      cases e146;(try replace aH:=bt_ HB aH);(try replace aI:=bt_ HB aI);(try replace aJ:=bt_ HB aJ)
      go_wp2_with (first|(refine gq_ 6 ?_;refine bx_ 6 #[.string (⟨#[]⟩:ByteArray),.int .i64 0,.bool false] 76 ?_;intro aD hg aX hbox hb;have aC:=mk_ (hbox);have aV:=gx_ hg HB;have aW:=gx_ hg HB;have aK:=nx_ hg aA;have:=aK.out;have aM:=ny_ hg aA;have:=aM.out;replace aA:=bb_ aA hb;replace HB:=bs_ HB hb;clear hb hbox hg;have:=cz3_ aC;have:=fz3_ aC))
      go_ret;exact⟨er_,bl_ HB⟩
     ·rw[if_neg aO]at H;have bI:decide (1099511627776<((rd_T76 l0_0 aB).f1))=false:=decide_eq_false aO;clear aO;replace H:=bi_ H;obtain⟨aP,bA,H⟩:=H
      rcases ic_ H with⟨bJ,h_⟩|⟨bJ,h_⟩
      ·clear H;have H:=h_;clear h_;obtain rfl:=Option.some.inj H;obtain⟨aF,aG,aL,e146,aH,aI,aJ⟩:=aq_ (at_T76 aN.out aB)
       cases e146;(try replace aH:=bt_ HB aH);(try replace aI:=bt_ HB aI);(try replace aJ:=bt_ HB aJ)
       go_wp2_with (first|(refine gq_ 6 ?_;refine bx_ 6 #[.string (⟨#[]⟩:ByteArray),.int .i64 0,.bool false] 76 ?_;intro aD hg aT hbox hb;have aC:=mk_ (hbox);have aV:=gx_ hg HB;have aW:=gx_ hg HB;have aK:=nx_ hg aA;have:=aK.out;have aM:=ny_ hg aA;have:=aM.out;replace aA:=bb_ aA hb;replace HB:=bs_ HB hb;clear hb hbox hg;have:=cz3_ aC;have:=fz3_ aC;have:=cz2_ aA;have:=fz2_ aA)|(go_at_call 30;(with_reducible refine(elastic_find.calls _ _ l0_0 a0_1 ((rd_T76 l0_0 aB).f0) aP _ ?side1 ?side2 bA.out).mono ?_);(case side1=>exact Kd.C_below aN.out (bl_ HB));(case side2=>exact aY.out);rintro e cS ⟨rfl,hb⟩;replace aA:=bbf_ aA hb;replace aC:=mk_ (blk_below (g:=aD) (o:=.cells #[.string ((rd_T76 l0_0 aB).f0),.int .i64 ((rd_T76 l0_0 aB).f1),.bool ((rd_T76 l0_0 aB).f2)] 76 (0,0)) (pt_ aC) hb);replace HB:=bs_ HB hb;(try clear hb)))
       go_ret;exact⟨er_,bl_ HB⟩
      ·clear H;have H:=h_;clear h_;have H':=mk_ H;clear H;obtain⟨aF,aG,aL,e146,aH,aI,aJ⟩:=aq_ (at_T76 aN.out aB)
       cases e146;(try replace aH:=bt_ HB aH);(try replace aI:=bt_ HB aI);(try replace aJ:=bt_ HB aJ)
       go_wp2_with (first|(refine gq_ 6 ?_;refine bx_ 6 #[.string (⟨#[]⟩:ByteArray),.int .i64 0,.bool false] 76 ?_;intro aD hg aU hbox hb;have aC:=mk_ (hbox);have aV:=gx_ hg HB;have aW:=gx_ hg HB;have aK:=nx_ hg aA;have:=aK.out;have aM:=ny_ hg aA;have:=aM.out;replace aA:=bb_ aA hb;replace HB:=bs_ HB hb;clear hb hbox hg;have:=cz3_ aC;have:=fz3_ aC;have:=cz2_ aA;have:=fz2_ aA)|(go_at_call 30;(with_reducible refine(elastic_find.calls _ _ l0_0 a0_1 ((rd_T76 l0_0 aB).f0) aP _ ?side1 ?side2 bA.out).mono ?_);(case side1=>exact Kd.C_below aN.out (bl_ HB));(case side2=>exact aY.out);rintro e dF ⟨rfl,hb⟩;replace aA:=bbf_ aA hb;replace aC:=mk_ (blk_below (g:=aD) (o:=.cells #[.string ((rd_T76 l0_0 aB).f0),.int .i64 ((rd_T76 l0_0 aB).f1),.bool ((rd_T76 l0_0 aB).f2)] 76 (0,0)) (pt_ aC) hb);replace HB:=bs_ HB hb;(try clear hb)))
       go_roundg k1
       case measure=>have:=HK1.out;omega
       case rel=>exact⟨(wrap64 (aB+1)),eq_,H',⟨by have:=HK1.out;omega⟩,⟨bk_ aA⟩,⟨bl_ HB⟩⟩
   ·clear H;have H:=h_;clear h_
    rcases ic_ H with⟨bK,h_⟩|⟨bK,h_⟩
    ·clear H;have H:=h_;clear h_
     by_cases aS:a0_1≥0
     ·rw[if_pos aS]at H;have bL:decide (0≤a0_1)=true:=decide_eq_true aS;clear aS;obtain rfl:=Option.some.inj H;have:=cz2_ aA;have:=fz2_ aA
      go_wp2
      go_ret;exact⟨er_,bl_ HB⟩
     ·rw[if_neg aS]at H;have bL:decide (0≤a0_1)=false:=decide_eq_false aS;clear aS;obtain rfl:=Option.some.inj H;have:=cz2_ aA;have:=fz2_ aA
      go_wp2
      go_ret;exact⟨er_,bl_ HB⟩
    ·clear H;have H:=h_;clear h_;obtain rfl:=Option.some.inj H;have:=cz2_ aA;have:=fz2_ aA
     go_wp2
     go_ret;exact⟨er_,bl_ HB⟩
def elastic_Bucket_44.any (k:Nat)(a1:Int)(l:List S56):Option Bool:=l.foldr (fun y r=>(elastic_Bucket_right.f k y.f0 y.f1 a1).bind fun b=>if b=true then r else some true) (some false)
def elastic_Bucket_44.f (k:Nat)(l0:List (S56))(a1:Int):Option (Bool):=if l0.length≤9223372036854775807 then elastic_Bucket_44.any k a1 l0 else none
theorem elastic_Bucket_44.mono:∀a0 a1 k,LeO (elastic_Bucket_44.f k a0 a1) (elastic_Bucket_44.f (k+1) a0 a1):=by
  intro a0 a1 k
  unfold elastic_Bucket_44.f
  split
  · unfold elastic_Bucket_44.any
    induction a0 with
    |nil=>exact LeO.refl _
    |cons y l ih=>
      rename_i hl
      rw[List.foldr_cons,List.foldr_cons]
      intro r h
      obtain⟨b,hb,h⟩:=Option.bind_eq_some_iff.mp h
      rw[elastic_Bucket_right.mono _ _ _ _ _ hb,Option.bind_some]
      cases b with
      |true=>rw[if_pos rfl]at h ⊢;exact ih (by rw[List.length_cons]at hl;omega) _ h
      |false=>rw[if_neg (by decide)]at h ⊢;exact h
  · exact LeO.refl _
theorem elastic_Bucket_44.lit (k:Nat)(y:S56)(A1:Option Addr)(c1 B:Nat)(a1:Int)(b:Bool)(w:World)(hB:w.cell? ⟨B,1,none⟩=some (.int .i64 a1))(hr:Kd.C k76 w A1 y.f0.length y.f0)(hc:y.f0.length≤c1)(h:elastic_Bucket_right.f k y.f0 y.f1 a1=some b):
    Calls Try.prog 45 #[.agg #[.slice A1 y.f0.length c1,.int .i64 y.f1],.pointer (some ⟨B,0,none⟩)] w fun e w'=>e=.returned (.bool (!b))∧Below w.heap.size w w':=by
  have hu_:=Try.underlying56
  have hu28:=Try.underlying28
  have HR:=Aside0.mk hr
  have HC:=Aside0.mk hc
  have HT:=Aside0.mk h
  have HB:=Aside0.mk (Below.refl w.heap.size w)
  have hlt:=World.block_lt_of_cell? w _ hB
  clear h hr hc
  go_enter Try.func45,Try.ntmps45
  go_wp2_with (first|(refine gq_ 2 ?_;refine bx_ 2 #[.slice A1 y.f0.length c1,.int .i64 y.f1] 56 ?_;intro gb hg w2 hbox hb;have n0_:=Aside0.mk (below_step (bl_ HB) hb);have BK:=Aside0.mk hbox;clear HB;have HB:=n0_;clear n0_;clear hb hbox hg;have hcz_0:w2.cell? ⟨gb,0,none⟩=some (.slice A1 y.f0.length c1):=(blk_cell BK.out 0).trans rfl;have hcz_1:w2.cell? ⟨gb,1,none⟩=some (.int .i64 y.f1):=(blk_cell BK.out 1).trans rfl;have hfz_0:=blk_frozen BK.out 0;have hrm:w2.cell? ⟨B,1,none⟩=some (.int .i64 a1):=(HB.out.cell hlt).trans hB)|((with_reducible refine gate_callee (f:=46) rfl ?_);refine gs_ (some 7) Try.func46 #[.agg #[.slice A1 y.f0.length c1,.int .i64 y.f1],.int .i64 a1] ?_;(refine(elastic_Bucket_right.calls k A1 c1 y.f0 y.f1 a1 b _ ?side1 ?side2 HT.out).mono ?_);(case side1=>first|exact Kd.C_below HR.out HB.out|exact Kd.C_drew (Kd.C_below HR.out HB.out));(case side2=>exact HC.out);rintro e w4 ⟨rfl,hb⟩;refine⟨_,rfl,?_⟩;replace HB:=Aside0.mk (below_step (bl_ HB) hb);clear hb))
  go_ret
  exact⟨by first|rfl|(simp;done)|(simp[*];done),bl_ HB⟩
theorem elastic_Bucket_44.drop_cons (l:List S56)(k:Nat)(h:k<l.length):l.drop k=rd_T56 l (k:Int) ::l.drop (k+1):=by
  rw[List.drop_eq_getElem_cons h]
  simp[rd_T56,List.getD_eq_getElem?_getD,h]
def elastic_Bucket_44.Tells (r:Bool)(w:World)(e:Ending)(w':World):Prop:=∃n:Int,e=.returned (.int .i64 n)∧decide (n≥0)=r∧Below w.heap.size w w'
theorem elastic_Bucket_44.index (k B:Nat)(a1:Int)(A:Option Addr)(c:Nat)(l:List S56)(r:Bool)(w:World)(hB:w.cell? ⟨B,1,none⟩=some (.int .i64 a1))(hr:Kd.C k56 w A l.length l)(hlen:l.length≤9223372036854775807)(h:elastic_Bucket_44.any k a1 l=some r):
    Calls Try.prog 69 #[.slice A l.length c,.func (.func 45) #[] #[.pointer (some ⟨B,0,none⟩)]] w (elastic_Bucket_44.Tells r w):=by
  have HR:=mk_ hr
  have H0:=mk_ h
  have HX:=mk_ hB
  have hltB:=World.block_lt_of_cell? w _ hB
  have HL:=mk_ hltB
  clear hr h hB hltB
  have hu_:=Try.underlying56
  have e_:∀(args:Array Value)(w:World),(callFunc 45 args).run Try.prog w=.ok (.enter 45 args) w:=fun args w=>enters_ Try.func45 (by kernel_rfl) rfl args w
  go_enter Try.func69,Try.ntmps69
  go_wp2
  go_loopg [5,8] l.length (fun gg _ s8 wr=>∃kk:Nat,kk≤l.length∧l.length-kk≤gg∧s8=.int .i64 kk∧Aside0 (Below w.heap.size w wr)∧Aside0 (elastic_Bucket_44.any k a1 (l.drop kk)=some r))
  case atStart=>exact⟨0,Nat.zero_le _,by omega,rfl,⟨Below.refl _ w⟩,⟨by rw[List.drop_zero];exact H0.out⟩⟩
  case round=>
    obtain⟨kk,hkk,hg,rfl,BW,HA⟩:=hrel
    by_cases hlt:kk<l.length
    · have h2:=HA.out
      rw[elastic_Bucket_44.drop_cons l kk hlt,elastic_Bucket_44.any,List.foldr_cons,←elastic_Bucket_44.any]at h2
      obtain⟨b,hb,h2⟩:=Option.bind_eq_some_iff.mp h2
      have hltz:(kk:Int)<(l.length:Int):=by omega
      have hk0:(0:Int)≤(kk:Int):=by omega
      obtain⟨ad,A1,c1,e,hx0,hx1,hl1,hi1⟩:=at_T56 HR.out (kk:Int) hk0 hltz
      cases e
      have hx0':=(BW.out.cell (World.block_lt_of_cell? w _ hx0)).trans hx0
      have hx1':=(BW.out.cell (World.block_lt_of_cell? w _ hx1)).trans hx1
      clear hx0 hx1
      simp only[Int.toNat_natCast]at hx0' hx1'
      have hcall:=elastic_Bucket_44.lit k (rd_T56 l (kk:Int)) A1 c1 B a1 b wr ((BW.out.cell HL.out).trans HX.out) (Kd.C_below hi1 BW.out) hl1 hb
      clear hb
      generalize rd_T56 l (kk:Int)=y at *
      cases b with
      |true=>
        rw[if_pos rfl]at h2
        have H2:=mk_ h2
        clear h2
        go_wp2_with (go_at_fn 45;refine hcall.mono ?_;rintro e w' ⟨rfl,hb'⟩)
        go_roundg (l.length-(kk+1))
        case measure=>omega
        case rel=>exact⟨kk+1,by omega,by omega,by go_num,⟨BW.out.trans (hb'.mono BW.out.size)⟩,H2⟩
      |false=>
        rw[if_neg (by decide)]at h2
        obtain rfl:=Option.some.inj h2
        clear h2
        go_wp2_with (go_at_fn 45;refine hcall.mono ?_;rintro e w' ⟨rfl,hb'⟩)
        go_ret
        exact⟨(kk:Int),rfl,decide_eq_true (by omega),BW.out.trans (hb'.mono BW.out.size)⟩
    · have hltz:¬(kk:Int)<(l.length:Int):=by omega
      have:kk=l.length:=by omega
      subst this
      have h2:=HA.out
      rw[List.drop_length,elastic_Bucket_44.any,List.foldr_nil]at h2
      obtain rfl:=Option.some.inj h2
      clear h2
      go_wp2
      go_ret
      exact⟨-1,rfl,by decide,BW.out⟩
theorem elastic_Bucket_44.calls (k B:Nat)(A0:Option Addr)(c0:Nat)(l0:List (S56))(a1:Int)(r:Bool)(w:World)(hB:w.cell? ⟨B,1,none⟩=some (.int .i64 a1))(hr0:Kd.C k56 w A0 l0.length l0)(hc0:l0.length≤c0)(h:elastic_Bucket_44.f k l0 a1=some r):
    Calls Try.prog 44 #[.slice A0 l0.length c0,.func (.func 45) #[] #[.pointer (some ⟨B,0,none⟩)]] w fun e w'=>e=.returned (.bool r)∧Below w.heap.size w w':=by
 unfold elastic_Bucket_44.f at h
 split at h
 ·rename_i hlen
  have hcall:=elastic_Bucket_44.index k B a1 A0 c0 l0 r w hB hr0 hlen h;clear hr0 h hB
  have e_:∀(args:Array Value)(w:World),(callFunc 69 args).run Try.prog w=.ok (.enter 69 args) w:=fun args w=>enters_ Try.func69 (by kernel_rfl) rfl args w
  go_enter Try.func44,Try.ntmps44
  go_wp2_with (go_at_fn 69;refine hcall.mono ?_;rintro e w' ⟨n,rfl,hn,hb⟩;have HN:=mk_ hn;clear hn)
  go_ret;rw[HN.out]
  exact⟨rfl,hb⟩
 ·cases h
def elastic_Right.f (k:Nat)(a0_0 a0_1 a0_2:Int)(l0_3:List (S56))(a0_4 a0_5:Int)(l0_6:List (List Int)):Option (Bool):=if a0_1≥1 then(if a0_1≤8 then(if a0_2≥1 then(if a0_2≤64 then(if(l0_3.length:Int)≥1 then(if(l0_3.length:Int)≤256 then((least_Right.f k a0_4 a0_5 l0_6).bind fun t151=>(if t151=true then((hash_Row.f a0_0 1).bind fun t152=>(if a0_4=t152 then(if a0_5=255 then((elastic_Bucket_44.f k l0_3 a0_1).bind fun t153=>(some (!t153)))else(some false))else(some false)))else(some false)))else(some false))else(some false))else(some false))else(some false))else(some false))else(some false)
theorem elastic_Right.mono:∀a0 a1 a2 a3 a4 a5 a6 k,LeO (elastic_Right.f k a0 a1 a2 a3 a4 a5 a6) (elastic_Right.f (k+1) a0 a1 a2 a3 a4 a5 a6):=by
  intro a0 a1 a2 a3 a4 a5 a6 k
  unfold elastic_Right.f
  repeat' with_reducible first|exact elastic_Bucket_44.mono .. |exact least_Right.mono .. |exact LeO.refl _|exact LeO.none _|refine LeO.ite ?_ ?_|refine LeO.bind ?_ (fun _=>?_)
def elastic_Right.T1:Bool × List (List Nat × List Nat):=(true,[([],[]),([0],[0]),([1],[1]),([2],[2]),([3],[3]),([4,3],[3,4]),([5,3],[3,5]),([3,6],[3,6]),([7,3],[7]),([8],[8]),([9,8],[8,9]),([10,8],[8,10]),([8,11],[8,11]),([12,8],[12]),([13],[13]),([14,13],[13,14]),([15,13],[13,15]),([13,16],[13,16]),([17,13],[17]),([18],[18]),([19,18],[18,19]),([20,18],[18,20]),([21,18],[18,21]),([18,22],[18,22]),([23,18],[23]),([24],[24]),([25,24],[24,25]),([26,24],[24,26]),([27,24],[24,27]),([24,28],[24,28]),([29,24],[29]),([30],[30]),([31,30],[30,31]),([32,30,30],[30,32]),([30,33],[30,33]),([34,33],[34]),([35],[35]),([36,35],[35,36]),([37,35],[35,37]),([35],[35]),([39,35],[35,39]),([40,35,35],[35,40]),([38,41,35],[35,38,41]),([35,42],[35,42]),([43,41],[43]),([44],[44]),([45,44],[44,45]),([46,44],[44,46]),([47,44],[44,47]),([44,48],[44,48]),([49,44],[49]),([50],[50]),([51,50],[50,51]),([50],[50]),([52,53,50,50],[50,52,53]),([54,50],[50,54]),([50,55],[50,55]),([56,54,0,1,2,3,4,5,6,7,8,9,10,11,12,13,14,15,16,17,18,19,20,21,22,23,24,25,26,27,28,29,30,31,32,33,34,35,36,37,38,39,40,41,42,43,44,45,46,47,48,49,50,51,52,53,54,55,56],[56])])
def elastic_Right.B1:List Nat:=[0,1,3,7,15,31,63,127,255,511,1023,2047,4095,8191,16383,32767,65535,131071,262143,524287,1048575,2097151,4194303,8388607,16777215,33554431,67108863,134217727,268435455,536870911,1073741823,2147483647,4294967295,8589934591,17179869183,34359738367,68719476735,137438953471,274877906943,68719476735,618475290623,1717986918399,4398046511103,8796093022207,17592186044415,35184372088831,70368744177663,140737488355327,281474976710655,562949953421311,1125899906842623,2251799813685247,4503599627370495,2251799813685247,18014398509481983,36028797018963967,72057594037927935,144115188075855871]
theorem elastic_Right.tab1:rtab .any (opsOf Try.f15 1)=elastic_Right.T1:=by kernel_rfl
theorem elastic_Right.bits1:waitsOk elastic_Right.T1.2 elastic_Right.B1=true:=by kernel_rfl
theorem elastic_Right.calls (k:Nat)(a0_0 a0_1 a0_2:Int)(A0_3:Option Addr)(c0_3:Nat)(l0_3:List (S56))(a0_4 a0_5:Int)(A0_6:Option Addr)(c0_6:Nat)(l0_6:List (List Int))(r:Bool)(w:World)(hr0_3:Kd.C k56 w A0_3 l0_3.length l0_3)(hc0_3:l0_3.length≤c0_3)(hr0_6:Kd.C (Kd.slice 3 (Kd.int .i64)) w A0_6 l0_6.length l0_6)(hc0_6:l0_6.length≤c0_6)(h:elastic_Right.f k a0_0 a0_1 a0_2 l0_3 a0_4 a0_5 l0_6=some r):
    Calls Try.prog 15 #[.agg #[.int .u64 a0_0,.int .i64 a0_1,.int .i64 a0_2,.slice A0_3 l0_3.length c0_3,.int .u64 a0_4,.int .i64 a0_5,.slice A0_6 l0_6.length c0_6]] w fun e w'=>e=.returned (.bool r)∧Below w.heap.size w w':=by
 have hu28:=Try.underlying28;have hu26:=Try.underlying26;have aP:=mk_ hr0_3;have aQ:=mk_ hc0_3;clear hr0_3 hc0_3;have aI:=mk_ hr0_6;have aJ:=mk_ hc0_6;clear hr0_6 hc0_6;have HB:=mk_ (Below.refl w.heap.size w);have H:=h;clear h;unfold elastic_Right.f at H
 by_cases c2:a0_1≥1
 ·rw[if_pos c2]at H;have aR:decide (1≤a0_1)=true:=decide_eq_true c2;clear c2
  rcases ic_ H with⟨aS,h_⟩|⟨aS,h_⟩
  ·clear H;have H:=h_;clear h_
   by_cases c4:a0_2≥1
   ·rw[if_pos c4]at H;have aT:decide (1≤a0_2)=true:=decide_eq_true c4;clear c4
    rcases ic_ H with⟨aU,h_⟩|⟨aU,h_⟩
    ·clear H;have H:=h_;clear h_
     by_cases c6:(l0_3.length:Int)≥1
     ·rw[if_pos c6]at H;have aV:decide (1≤(l0_3.length:Int))=true:=decide_eq_true c6;have aW:decide (1≤l0_3.length)=true:=decide_eq_true (by omega);clear c6
      by_cases c7:(l0_3.length:Int)≤256
      ·rw[if_pos c7]at H;have aX:=decide_eq_true c7;have aY:decide (l0_3.length≤256)=true:=decide_eq_true (by omega);clear c7;replace H:=bi_ H;obtain⟨aK,A8,H⟩:=H
       by_cases c9:aK=true
       ·subst c9
        rw[if_pos rfl]at H;replace H:=bi_ H;obtain⟨aC,aL,H⟩:=H
        by_cases aG:a0_4=aC
        ·rw[if_pos aG]at H;have aZ:=beq_iff_eq.mpr aG;have bA:=bne_eq_false_iff_eq.mpr aG;clear aG
         by_cases aH:a0_5=255
         ·rw[if_pos aH]at H;have bB:=beq_iff_eq.mpr aH;have bC:=bne_eq_false_iff_eq.mpr aH;clear aH;replace H:=bi_ H;obtain⟨aD,bD,H⟩:=H;obtain rfl:=Option.some.inj H
          go_enter Try.func15,Try.ntmps15
          try go_wp2_with (first|(refine gq_ 1 ?_;(try(refine gate_guard (by rfl) ?_;dsimp only));refine bx_ 1 #[.int .u64 a0_0,.int .i64 a0_1,.int .i64 a0_2,.slice A0_3 l0_3.length c0_3,.int .u64 a0_4,.int .i64 a0_5,.slice A0_6 l0_6.length c0_6] 28 ?_;intro aB hg bE hbox hb;have aA:=mk_ (hbox);have aE:=gx_ hg HB;have aF:=gx_ hg HB;replace HB:=bs_ HB hb;clear hb hbox hg))
          replace aA:=bd_ aA;replace HB:=bw_ HB;generalize hD_:bE.drew=bO at aA HB;refine sx_ (n:=58) (ds:=[]) hD_ (cz7_ aA) (fun hHeld=>?_);refine with_tabW elastic_Right.tab1 elastic_Right.bits1 (fun HT_ HW_=>?_);clear hD_;refine p1_ 0 1 ?_;refine t1_ 1 3 ?_;refine p1_ 2 7 ?_;refine p1_ 3 15 ?_;refine p1_ 4 31 ?_;refine t1_ 5 63 ?_;refine p1_ 6 127 ?_;refine p1_ 7 255 ?_;refine p1_ 8 511 ?_;refine p1_ 9 1023 ?_;refine t1_ 10 2047 ?_;refine p1_ 11 4095 ?_;refine p1_ 12 8191 ?_;refine p1_ 13 16383 ?_;refine p1_ 14 32767 ?_;refine t1_ 15 65535 ?_;refine p1_ 16 131071 ?_;refine p1_ 17 262143 ?_;refine p1_ 18 524287 ?_;refine p1_ 19 1048575 ?_;refine t1_ 20 2097151 ?_;refine p1_ 21 4194303 ?_;refine p1_ 22 8388607 ?_;refine p1_ 23 16777215 ?_;refine p1_ 24 33554431 ?_;refine p1_ 25 67108863 ?_;refine t1_ 26 134217727 ?_;refine p1_ 27 268435455 ?_;refine p1_ 28 536870911 ?_;refine p1_ 29 1073741823 ?_;refine p1_ 30 2147483647 ?_;refine p1_ 31 4294967295 ?_;refine t1_ 32 8589934591 ?_;refine oq_ 33 (some 36) 58 17179869183 HT_ (fun K hK=>?_);refine gt_ Try.func42 (least_Right.calls k a0_4 a0_5 _ _ l0_6 true _ ?side1 ?side2 A8.out) ?_
          (case side1=>exact ck_ (Kd.C_below aI.out HB.out));(case side2=>exact aJ.out);intro bP hb;replace aA:=bb_ aA hb;replace HB:=bs_ HB hb;(try clear hb);refine hK.out _ _ hl_ (fun hHeld=>?_);clear hK K;refine nm_ 36 ?_;refine p1_ 34 34359738367 ?_;refine p1_ 35 68719476735 ?_;refine p1_ 36 137438953471 ?_;refine p1_ 37 274877906943 ?_;refine p1_ 39 824633720831 ?_;refine t1_ 38 1099511627775 ?_;refine t1_ 40 2199023255551 ?_;refine oq_ 41 (some 44) 58 4398046511103 HT_ (fun K hK=>?_);refine gt_ Try.func43 (hash_Row.calls a0_0 1 aC _ aL.out) ?_
          intro bQ hb;replace aA:=bb_ aA hb;replace HB:=bs_ HB hb;(try clear hb);refine hK.out _ _ hl_ (fun hHeld=>?_);clear hK K;refine nm_ 44 ?_;refine p1_ 42 8796093022207 ?_;refine p1_ 43 17592186044415 ?_;refine p1_ 44 35184372088831 ?_;refine p1_ 45 70368744177663 ?_;refine p1_ 46 140737488355327 ?_;refine t1_ 47 281474976710655 ?_;refine p1_ 48 562949953421311 ?_;refine p1_ 49 1125899906842623 ?_;refine p1_ 50 2251799813685247 ?_;refine p1_ 51 4503599627370495 ?_;refine p1_ 53 13510798882111487 ?_;refine t1_ 52 18014398509481983 ?_;refine oq_ 54 (some 57) 58 36028797018963967 HT_ (fun K hK=>?_);refine gt_ Try.func44 (elastic_Bucket_44.calls k aB _ _ l0_3 a0_1 aD _ hHeld.2.1 ?side1 ?side2 bD.out) ?_
          (case side1=>exact ck_ (Kd.C_below aP.out HB.out));(case side2=>exact aQ.out);intro bR hb;replace aA:=bb_ aA hb;replace HB:=bs_ HB hb;(try clear hb);refine hK.out _ _ hl_ (fun hHeld=>?_);clear hK K;refine nm_ 57 ?_;refine p1_ 55 72057594037927935 ?_;refine p1_ 56 144115188075855871 ?_;refine p1_ 57 288230376151711743 ?_;refine dq_ HT_ ?_
          try go_wp2
          go_ret;exact⟨er_,bl_ HB⟩
         ·rw[if_neg aH]at H;have bB:=beq_eq_false_iff_ne.mpr aH;have bC:=bne_iff_ne.mpr aH;obtain rfl:=Option.some.inj H
          go_enter Try.func15,Try.ntmps15
          try go_wp2_with (first|(refine gq_ 1 ?_;(try(refine gate_guard (by rfl) ?_;dsimp only));refine bx_ 1 #[.int .u64 a0_0,.int .i64 a0_1,.int .i64 a0_2,.slice A0_3 l0_3.length c0_3,.int .u64 a0_4,.int .i64 a0_5,.slice A0_6 l0_6.length c0_6] 28 ?_;intro aB hg bF hbox hb;have aA:=mk_ (hbox);have aE:=gx_ hg HB;have aF:=gx_ hg HB;replace HB:=bs_ HB hb;clear hb hbox hg))
          replace aA:=bd_ aA;replace HB:=bw_ HB;generalize hD_:bF.drew=bS at aA HB;refine sx_ (n:=58) (ds:=[]) hD_ (cz7_ aA) (fun hHeld=>?_);refine with_tabW elastic_Right.tab1 elastic_Right.bits1 (fun HT_ HW_=>?_);clear hD_;refine p1_ 0 1 ?_;refine t1_ 1 3 ?_;refine p1_ 2 7 ?_;refine p1_ 3 15 ?_;refine p1_ 4 31 ?_;refine t1_ 5 63 ?_;refine p1_ 6 127 ?_;refine p1_ 7 255 ?_;refine p1_ 8 511 ?_;refine p1_ 9 1023 ?_;refine t1_ 10 2047 ?_;refine p1_ 11 4095 ?_;refine p1_ 12 8191 ?_;refine p1_ 13 16383 ?_;refine p1_ 14 32767 ?_;refine t1_ 15 65535 ?_;refine p1_ 16 131071 ?_;refine p1_ 17 262143 ?_;refine p1_ 18 524287 ?_;refine p1_ 19 1048575 ?_;refine t1_ 20 2097151 ?_;refine p1_ 21 4194303 ?_;refine p1_ 22 8388607 ?_;refine p1_ 23 16777215 ?_;refine p1_ 24 33554431 ?_;refine p1_ 25 67108863 ?_;refine t1_ 26 134217727 ?_;refine p1_ 27 268435455 ?_;refine p1_ 28 536870911 ?_;refine p1_ 29 1073741823 ?_;refine p1_ 30 2147483647 ?_;refine p1_ 31 4294967295 ?_;refine t1_ 32 8589934591 ?_;refine oq_ 33 (some 36) 58 17179869183 HT_ (fun K hK=>?_);refine gt_ Try.func42 (least_Right.calls k a0_4 a0_5 _ _ l0_6 true _ ?side1 ?side2 A8.out) ?_
          (case side1=>exact ck_ (Kd.C_below aI.out HB.out));(case side2=>exact aJ.out);intro bT hb;replace aA:=bb_ aA hb;replace HB:=bs_ HB hb;(try clear hb);refine hK.out _ _ hl_ (fun hHeld=>?_);clear hK K;refine nm_ 36 ?_;refine p1_ 34 34359738367 ?_;refine p1_ 35 68719476735 ?_;refine p1_ 36 137438953471 ?_;refine p1_ 37 274877906943 ?_;refine p1_ 39 824633720831 ?_;refine t1_ 38 1099511627775 ?_;refine t1_ 40 2199023255551 ?_;refine oq_ 41 (some 44) 58 4398046511103 HT_ (fun K hK=>?_);refine gt_ Try.func43 (hash_Row.calls a0_0 1 aC _ aL.out) ?_
          intro bU hb;replace aA:=bb_ aA hb;replace HB:=bs_ HB hb;(try clear hb);refine hK.out _ _ hl_ (fun hHeld=>?_);clear hK K;refine nm_ 44 ?_;refine p1_ 42 8796093022207 ?_;refine p1_ 43 17592186044415 ?_;refine p1_ 44 35184372088831 ?_;refine p1_ 45 70368744177663 ?_;refine p1_ 46 140737488355327 ?_;refine t1_ 47 281474976710655 ?_;refine p1_ 48 562949953421311 ?_;refine p1_ 49 1125899906842623 ?_;refine p1_ 50 2251799813685247 ?_;refine uq_ [(51,54),(52,55),(53,56),(54,57),(55,58)] 2 58 72057594037927935 HT_ ?_;refine p1_ 56 144115188075855871 ?_;refine p1_ 57 288230376151711743 ?_;refine dq_ HT_ ?_
          try go_wp2
          go_ret;exact⟨er_,bl_ HB⟩
        ·rw[if_neg aG]at H;have aZ:=beq_eq_false_iff_ne.mpr aG;have bA:=bne_iff_ne.mpr aG;obtain rfl:=Option.some.inj H
         go_enter Try.func15,Try.ntmps15
         try go_wp2_with (first|(refine gq_ 1 ?_;(try(refine gate_guard (by rfl) ?_;dsimp only));refine bx_ 1 #[.int .u64 a0_0,.int .i64 a0_1,.int .i64 a0_2,.slice A0_3 l0_3.length c0_3,.int .u64 a0_4,.int .i64 a0_5,.slice A0_6 l0_6.length c0_6] 28 ?_;intro aB hg bG hbox hb;have aA:=mk_ (hbox);have aE:=gx_ hg HB;have aF:=gx_ hg HB;replace HB:=bs_ HB hb;clear hb hbox hg))
         replace aA:=bd_ aA;replace HB:=bw_ HB;generalize hD_:bG.drew=bV at aA HB;refine sx_ (n:=58) (ds:=[]) hD_ (cz7_ aA) (fun hHeld=>?_);refine with_tabW elastic_Right.tab1 elastic_Right.bits1 (fun HT_ HW_=>?_);clear hD_;refine p1_ 0 1 ?_;refine t1_ 1 3 ?_;refine p1_ 2 7 ?_;refine p1_ 3 15 ?_;refine p1_ 4 31 ?_;refine t1_ 5 63 ?_;refine p1_ 6 127 ?_;refine p1_ 7 255 ?_;refine p1_ 8 511 ?_;refine p1_ 9 1023 ?_;refine t1_ 10 2047 ?_;refine p1_ 11 4095 ?_;refine p1_ 12 8191 ?_;refine p1_ 13 16383 ?_;refine p1_ 14 32767 ?_;refine t1_ 15 65535 ?_;refine p1_ 16 131071 ?_;refine p1_ 17 262143 ?_;refine p1_ 18 524287 ?_;refine p1_ 19 1048575 ?_;refine t1_ 20 2097151 ?_;refine p1_ 21 4194303 ?_;refine p1_ 22 8388607 ?_;refine p1_ 23 16777215 ?_;refine p1_ 24 33554431 ?_;refine p1_ 25 67108863 ?_;refine t1_ 26 134217727 ?_;refine p1_ 27 268435455 ?_;refine p1_ 28 536870911 ?_;refine p1_ 29 1073741823 ?_;refine p1_ 30 2147483647 ?_;refine p1_ 31 4294967295 ?_;refine t1_ 32 8589934591 ?_;refine oq_ 33 (some 36) 58 17179869183 HT_ (fun K hK=>?_);refine gt_ Try.func42 (least_Right.calls k a0_4 a0_5 _ _ l0_6 true _ ?side1 ?side2 A8.out) ?_
         (case side1=>exact ck_ (Kd.C_below aI.out HB.out));(case side2=>exact aJ.out);intro bW hb;replace aA:=bb_ aA hb;replace HB:=bs_ HB hb;(try clear hb);refine hK.out _ _ hl_ (fun hHeld=>?_);clear hK K;refine nm_ 36 ?_;refine p1_ 34 34359738367 ?_;refine p1_ 35 68719476735 ?_;refine p1_ 36 137438953471 ?_;refine p1_ 37 274877906943 ?_;refine p1_ 39 824633720831 ?_;refine t1_ 38 1099511627775 ?_;refine t1_ 40 2199023255551 ?_;refine oq_ 41 (some 44) 58 4398046511103 HT_ (fun K hK=>?_);refine gt_ Try.func43 (hash_Row.calls a0_0 1 aC _ aL.out) ?_
         intro bX hb;replace aA:=bb_ aA hb;replace HB:=bs_ HB hb;(try clear hb);refine hK.out _ _ hl_ (fun hHeld=>?_);clear hK K;refine nm_ 44 ?_;refine p1_ 42 8796093022207 ?_;refine p1_ 43 17592186044415 ?_;refine p1_ 44 35184372088831 ?_;refine uq_ [(45,48),(46,49),(47,50),(48,51)] 9 58 562949953421311 HT_ ?_;refine p1_ 49 1125899906842623 ?_;refine p1_ 50 2251799813685247 ?_;refine uq_ [(51,54),(52,55),(53,56),(54,57),(55,58)] 2 58 72057594037927935 HT_ ?_;refine p1_ 56 144115188075855871 ?_;refine p1_ 57 288230376151711743 ?_;refine dq_ HT_ ?_
         try go_wp2
         go_ret;exact⟨er_,bl_ HB⟩
       ·replace c9:=Bool.eq_false_iff.mpr c9;subst c9
        rw[if_neg (show¬(false=true)by decide)]at H;obtain rfl:=Option.some.inj H
        go_enter Try.func15,Try.ntmps15
        try go_wp2_with (first|(refine gq_ 1 ?_;(try(refine gate_guard (by rfl) ?_;dsimp only));refine bx_ 1 #[.int .u64 a0_0,.int .i64 a0_1,.int .i64 a0_2,.slice A0_3 l0_3.length c0_3,.int .u64 a0_4,.int .i64 a0_5,.slice A0_6 l0_6.length c0_6] 28 ?_;intro aB hg bH hbox hb;have aA:=mk_ (hbox);have aE:=gx_ hg HB;have aF:=gx_ hg HB;replace HB:=bs_ HB hb;clear hb hbox hg))
        replace aA:=bd_ aA;replace HB:=bw_ HB;generalize hD_:bH.drew=bY at aA HB;refine sx_ (n:=58) (ds:=[]) hD_ (cz7_ aA) (fun hHeld=>?_);refine with_tabW elastic_Right.tab1 elastic_Right.bits1 (fun HT_ HW_=>?_);clear hD_;refine p1_ 0 1 ?_;refine t1_ 1 3 ?_;refine p1_ 2 7 ?_;refine p1_ 3 15 ?_;refine p1_ 4 31 ?_;refine t1_ 5 63 ?_;refine p1_ 6 127 ?_;refine p1_ 7 255 ?_;refine p1_ 8 511 ?_;refine p1_ 9 1023 ?_;refine t1_ 10 2047 ?_;refine p1_ 11 4095 ?_;refine p1_ 12 8191 ?_;refine p1_ 13 16383 ?_;refine p1_ 14 32767 ?_;refine t1_ 15 65535 ?_;refine p1_ 16 131071 ?_;refine p1_ 17 262143 ?_;refine p1_ 18 524287 ?_;refine p1_ 19 1048575 ?_;refine t1_ 20 2097151 ?_;refine p1_ 21 4194303 ?_;refine p1_ 22 8388607 ?_;refine p1_ 23 16777215 ?_;refine p1_ 24 33554431 ?_;refine p1_ 25 67108863 ?_;refine t1_ 26 134217727 ?_;refine p1_ 27 268435455 ?_;refine p1_ 28 536870911 ?_;refine p1_ 29 1073741823 ?_;refine p1_ 30 2147483647 ?_;refine p1_ 31 4294967295 ?_;refine t1_ 32 8589934591 ?_;refine oq_ 33 (some 36) 58 17179869183 HT_ (fun K hK=>?_);refine gt_ Try.func42 (least_Right.calls k a0_4 a0_5 _ _ l0_6 false _ ?side1 ?side2 A8.out) ?_
        (case side1=>exact ck_ (Kd.C_below aI.out HB.out));(case side2=>exact aJ.out);intro bZ hb;replace aA:=bb_ aA hb;replace HB:=bs_ HB hb;(try clear hb);refine hK.out _ _ hl_ (fun hHeld=>?_);clear hK K;refine nm_ 36 ?_;refine p1_ 34 34359738367 ?_;refine p1_ 35 68719476735 ?_;refine uq_ [(36,39),(37,40),(38,41),(39,42),(40,43),(41,44),(42,45)] 15 58 8796093022207 HT_ ?_;refine p1_ 43 17592186044415 ?_;refine p1_ 44 35184372088831 ?_;refine uq_ [(45,48),(46,49),(47,50),(48,51)] 9 58 562949953421311 HT_ ?_;refine p1_ 49 1125899906842623 ?_;refine p1_ 50 2251799813685247 ?_;refine uq_ [(51,54),(52,55),(53,56),(54,57),(55,58)] 2 58 72057594037927935 HT_ ?_;refine p1_ 56 144115188075855871 ?_;refine p1_ 57 288230376151711743 ?_;refine dq_ HT_ ?_
        try go_wp2
        go_ret;exact⟨er_,bl_ HB⟩
      ·rw[if_neg c7]at H;have aX:=decide_eq_false c7;have aY:decide (l0_3.length≤256)=false:=decide_eq_false (by omega);clear c7;obtain rfl:=Option.some.inj H
       go_enter Try.func15,Try.ntmps15
       try go_wp2_with (first|(refine gq_ 1 ?_;(try(refine gate_guard (by rfl) ?_;dsimp only));refine bx_ 1 #[.int .u64 a0_0,.int .i64 a0_1,.int .i64 a0_2,.slice A0_3 l0_3.length c0_3,.int .u64 a0_4,.int .i64 a0_5,.slice A0_6 l0_6.length c0_6] 28 ?_;intro aB hg bI hbox hb;have aA:=mk_ (hbox);have aE:=gx_ hg HB;have aF:=gx_ hg HB;replace HB:=bs_ HB hb;clear hb hbox hg))
       replace aA:=bd_ aA;replace HB:=bw_ HB;generalize hD_:bI.drew=cA at aA HB;refine sx_ (n:=58) (ds:=[]) hD_ (cz7_ aA) (fun hHeld=>?_);refine with_tabW elastic_Right.tab1 elastic_Right.bits1 (fun HT_ HW_=>?_);clear hD_;refine p1_ 0 1 ?_;refine t1_ 1 3 ?_;refine p1_ 2 7 ?_;refine p1_ 3 15 ?_;refine p1_ 4 31 ?_;refine t1_ 5 63 ?_;refine p1_ 6 127 ?_;refine p1_ 7 255 ?_;refine p1_ 8 511 ?_;refine p1_ 9 1023 ?_;refine t1_ 10 2047 ?_;refine p1_ 11 4095 ?_;refine p1_ 12 8191 ?_;refine p1_ 13 16383 ?_;refine p1_ 14 32767 ?_;refine t1_ 15 65535 ?_;refine p1_ 16 131071 ?_;refine p1_ 17 262143 ?_;refine p1_ 18 524287 ?_;refine p1_ 19 1048575 ?_;refine t1_ 20 2097151 ?_;refine p1_ 21 4194303 ?_;refine p1_ 22 8388607 ?_;refine p1_ 23 16777215 ?_;refine p1_ 24 33554431 ?_;refine p1_ 25 67108863 ?_;refine t1_ 26 134217727 ?_;refine p1_ 27 268435455 ?_;refine p1_ 28 536870911 ?_;refine p1_ 29 1073741823 ?_;refine p1_ 30 2147483647 ?_;refine uq_ [(31,34),(32,35),(33,36)] 24 58 17179869183 HT_ ?_;refine p1_ 34 34359738367 ?_;refine p1_ 35 68719476735 ?_;refine uq_ [(36,39),(37,40),(38,41),(39,42),(40,43),(41,44),(42,45)] 15 58 8796093022207 HT_ ?_;refine p1_ 43 17592186044415 ?_;refine p1_ 44 35184372088831 ?_;refine uq_ [(45,48),(46,49),(47,50),(48,51)] 9 58 562949953421311 HT_ ?_;refine p1_ 49 1125899906842623 ?_;refine p1_ 50 2251799813685247 ?_;refine uq_ [(51,54),(52,55),(53,56),(54,57),(55,58)] 2 58 72057594037927935 HT_ ?_;refine p1_ 56 144115188075855871 ?_;refine p1_ 57 288230376151711743 ?_;refine dq_ HT_ ?_
       try go_wp2
       go_ret;exact⟨er_,bl_ HB⟩
     ·rw[if_neg c6]at H;have aV:decide (1≤(l0_3.length:Int))=false:=decide_eq_false c6;have aW:decide (1≤l0_3.length)=false:=decide_eq_false (by omega);clear c6;obtain rfl:=Option.some.inj H
      go_enter Try.func15,Try.ntmps15
      try go_wp2_with (first|(refine gq_ 1 ?_;(try(refine gate_guard (by rfl) ?_;dsimp only));refine bx_ 1 #[.int .u64 a0_0,.int .i64 a0_1,.int .i64 a0_2,.slice A0_3 l0_3.length c0_3,.int .u64 a0_4,.int .i64 a0_5,.slice A0_6 l0_6.length c0_6] 28 ?_;intro aB hg bJ hbox hb;have aA:=mk_ (hbox);have aE:=gx_ hg HB;have aF:=gx_ hg HB;replace HB:=bs_ HB hb;clear hb hbox hg))
      replace aA:=bd_ aA;replace HB:=bw_ HB;generalize hD_:bJ.drew=cB at aA HB;refine sx_ (n:=58) (ds:=[]) hD_ (cz7_ aA) (fun hHeld=>?_);refine with_tabW elastic_Right.tab1 elastic_Right.bits1 (fun HT_ HW_=>?_);clear hD_;refine p1_ 0 1 ?_;refine t1_ 1 3 ?_;refine p1_ 2 7 ?_;refine p1_ 3 15 ?_;refine p1_ 4 31 ?_;refine t1_ 5 63 ?_;refine p1_ 6 127 ?_;refine p1_ 7 255 ?_;refine p1_ 8 511 ?_;refine p1_ 9 1023 ?_;refine t1_ 10 2047 ?_;refine p1_ 11 4095 ?_;refine p1_ 12 8191 ?_;refine p1_ 13 16383 ?_;refine p1_ 14 32767 ?_;refine t1_ 15 65535 ?_;refine p1_ 16 131071 ?_;refine p1_ 17 262143 ?_;refine p1_ 18 524287 ?_;refine p1_ 19 1048575 ?_;refine t1_ 20 2097151 ?_;refine p1_ 21 4194303 ?_;refine p1_ 22 8388607 ?_;refine p1_ 23 16777215 ?_;refine p1_ 24 33554431 ?_;refine uq_ [(25,28),(26,29),(27,30),(28,31)] 29 58 536870911 HT_ ?_;refine p1_ 29 1073741823 ?_;refine p1_ 30 2147483647 ?_;refine uq_ [(31,34),(32,35),(33,36)] 24 58 17179869183 HT_ ?_;refine p1_ 34 34359738367 ?_;refine p1_ 35 68719476735 ?_;refine uq_ [(36,39),(37,40),(38,41),(39,42),(40,43),(41,44),(42,45)] 15 58 8796093022207 HT_ ?_;refine p1_ 43 17592186044415 ?_;refine p1_ 44 35184372088831 ?_;refine uq_ [(45,48),(46,49),(47,50),(48,51)] 9 58 562949953421311 HT_ ?_;refine p1_ 49 1125899906842623 ?_;refine p1_ 50 2251799813685247 ?_;refine uq_ [(51,54),(52,55),(53,56),(54,57),(55,58)] 2 58 72057594037927935 HT_ ?_;refine p1_ 56 144115188075855871 ?_;refine p1_ 57 288230376151711743 ?_;refine dq_ HT_ ?_
      try go_wp2
      go_ret;exact⟨er_,bl_ HB⟩
    ·clear H;have H:=h_;clear h_;obtain rfl:=Option.some.inj H
     go_enter Try.func15,Try.ntmps15
     try go_wp2_with (first|(refine gq_ 1 ?_;(try(refine gate_guard (by rfl) ?_;dsimp only));refine bx_ 1 #[.int .u64 a0_0,.int .i64 a0_1,.int .i64 a0_2,.slice A0_3 l0_3.length c0_3,.int .u64 a0_4,.int .i64 a0_5,.slice A0_6 l0_6.length c0_6] 28 ?_;intro aB hg bK hbox hb;have aA:=mk_ (hbox);have aE:=gx_ hg HB;have aF:=gx_ hg HB;replace HB:=bs_ HB hb;clear hb hbox hg))
     replace aA:=bd_ aA;replace HB:=bw_ HB;generalize hD_:bK.drew=cC at aA HB;refine sx_ (n:=58) (ds:=[]) hD_ (cz7_ aA) (fun hHeld=>?_);refine with_tabW elastic_Right.tab1 elastic_Right.bits1 (fun HT_ HW_=>?_);clear hD_;refine p1_ 0 1 ?_;refine t1_ 1 3 ?_;refine p1_ 2 7 ?_;refine p1_ 3 15 ?_;refine p1_ 4 31 ?_;refine t1_ 5 63 ?_;refine p1_ 6 127 ?_;refine p1_ 7 255 ?_;refine p1_ 8 511 ?_;refine p1_ 9 1023 ?_;refine t1_ 10 2047 ?_;refine p1_ 11 4095 ?_;refine p1_ 12 8191 ?_;refine p1_ 13 16383 ?_;refine p1_ 14 32767 ?_;refine t1_ 15 65535 ?_;refine p1_ 16 131071 ?_;refine p1_ 17 262143 ?_;refine p1_ 18 524287 ?_;refine uq_ [(19,22),(20,23),(21,24),(22,25)] 35 58 8388607 HT_ ?_;refine p1_ 23 16777215 ?_;refine p1_ 24 33554431 ?_;refine uq_ [(25,28),(26,29),(27,30),(28,31)] 29 58 536870911 HT_ ?_;refine p1_ 29 1073741823 ?_;refine p1_ 30 2147483647 ?_;refine uq_ [(31,34),(32,35),(33,36)] 24 58 17179869183 HT_ ?_;refine p1_ 34 34359738367 ?_;refine p1_ 35 68719476735 ?_;refine uq_ [(36,39),(37,40),(38,41),(39,42),(40,43),(41,44),(42,45)] 15 58 8796093022207 HT_ ?_;refine p1_ 43 17592186044415 ?_;refine p1_ 44 35184372088831 ?_;refine uq_ [(45,48),(46,49),(47,50),(48,51)] 9 58 562949953421311 HT_ ?_;refine p1_ 49 1125899906842623 ?_;refine p1_ 50 2251799813685247 ?_;refine uq_ [(51,54),(52,55),(53,56),(54,57),(55,58)] 2 58 72057594037927935 HT_ ?_;refine p1_ 56 144115188075855871 ?_;refine p1_ 57 288230376151711743 ?_;refine dq_ HT_ ?_
     try go_wp2
     go_ret;exact⟨er_,bl_ HB⟩
   ·rw[if_neg c4]at H;have aT:decide (1≤a0_2)=false:=decide_eq_false c4;clear c4;obtain rfl:=Option.some.inj H
    go_enter Try.func15,Try.ntmps15
    try go_wp2_with (first|(refine gq_ 1 ?_;(try(refine gate_guard (by rfl) ?_;dsimp only));refine bx_ 1 #[.int .u64 a0_0,.int .i64 a0_1,.int .i64 a0_2,.slice A0_3 l0_3.length c0_3,.int .u64 a0_4,.int .i64 a0_5,.slice A0_6 l0_6.length c0_6] 28 ?_;intro aB hg bL hbox hb;have aA:=mk_ (hbox);have aE:=gx_ hg HB;have aF:=gx_ hg HB;replace HB:=bs_ HB hb;clear hb hbox hg))
    replace aA:=bd_ aA;replace HB:=bw_ HB;generalize hD_:bL.drew=cD at aA HB;refine sx_ (n:=58) (ds:=[]) hD_ (cz7_ aA) (fun hHeld=>?_);refine with_tabW elastic_Right.tab1 elastic_Right.bits1 (fun HT_ HW_=>?_);clear hD_;refine p1_ 0 1 ?_;refine t1_ 1 3 ?_;refine p1_ 2 7 ?_;refine p1_ 3 15 ?_;refine p1_ 4 31 ?_;refine t1_ 5 63 ?_;refine p1_ 6 127 ?_;refine p1_ 7 255 ?_;refine p1_ 8 511 ?_;refine p1_ 9 1023 ?_;refine t1_ 10 2047 ?_;refine p1_ 11 4095 ?_;refine p1_ 12 8191 ?_;refine p1_ 13 16383 ?_;refine uq_ [(14,17),(15,18),(16,19)] 41 58 131071 HT_ ?_;refine p1_ 17 262143 ?_;refine p1_ 18 524287 ?_;refine uq_ [(19,22),(20,23),(21,24),(22,25)] 35 58 8388607 HT_ ?_;refine p1_ 23 16777215 ?_;refine p1_ 24 33554431 ?_;refine uq_ [(25,28),(26,29),(27,30),(28,31)] 29 58 536870911 HT_ ?_;refine p1_ 29 1073741823 ?_;refine p1_ 30 2147483647 ?_;refine uq_ [(31,34),(32,35),(33,36)] 24 58 17179869183 HT_ ?_;refine p1_ 34 34359738367 ?_;refine p1_ 35 68719476735 ?_;refine uq_ [(36,39),(37,40),(38,41),(39,42),(40,43),(41,44),(42,45)] 15 58 8796093022207 HT_ ?_;refine p1_ 43 17592186044415 ?_;refine p1_ 44 35184372088831 ?_;refine uq_ [(45,48),(46,49),(47,50),(48,51)] 9 58 562949953421311 HT_ ?_;refine p1_ 49 1125899906842623 ?_;refine p1_ 50 2251799813685247 ?_;refine uq_ [(51,54),(52,55),(53,56),(54,57),(55,58)] 2 58 72057594037927935 HT_ ?_;refine p1_ 56 144115188075855871 ?_;refine p1_ 57 288230376151711743 ?_;refine dq_ HT_ ?_
    try go_wp2
    go_ret;exact⟨er_,bl_ HB⟩
  ·clear H;have H:=h_;clear h_;obtain rfl:=Option.some.inj H
   go_enter Try.func15,Try.ntmps15
   try go_wp2_with (first|(refine gq_ 1 ?_;(try(refine gate_guard (by rfl) ?_;dsimp only));refine bx_ 1 #[.int .u64 a0_0,.int .i64 a0_1,.int .i64 a0_2,.slice A0_3 l0_3.length c0_3,.int .u64 a0_4,.int .i64 a0_5,.slice A0_6 l0_6.length c0_6] 28 ?_;intro aB hg bM hbox hb;have aA:=mk_ (hbox);have aE:=gx_ hg HB;have aF:=gx_ hg HB;replace HB:=bs_ HB hb;clear hb hbox hg))
   replace aA:=bd_ aA;replace HB:=bw_ HB;generalize hD_:bM.drew=cE at aA HB;refine sx_ (n:=58) (ds:=[]) hD_ (cz7_ aA) (fun hHeld=>?_);refine with_tabW elastic_Right.tab1 elastic_Right.bits1 (fun HT_ HW_=>?_);clear hD_;refine p1_ 0 1 ?_;refine t1_ 1 3 ?_;refine p1_ 2 7 ?_;refine p1_ 3 15 ?_;refine p1_ 4 31 ?_;refine t1_ 5 63 ?_;refine p1_ 6 127 ?_;refine p1_ 7 255 ?_;refine p1_ 8 511 ?_;refine uq_ [(9,12),(10,13),(11,14)] 46 58 4095 HT_ ?_;refine p1_ 12 8191 ?_;refine p1_ 13 16383 ?_;refine uq_ [(14,17),(15,18),(16,19)] 41 58 131071 HT_ ?_;refine p1_ 17 262143 ?_;refine p1_ 18 524287 ?_;refine uq_ [(19,22),(20,23),(21,24),(22,25)] 35 58 8388607 HT_ ?_;refine p1_ 23 16777215 ?_;refine p1_ 24 33554431 ?_;refine uq_ [(25,28),(26,29),(27,30),(28,31)] 29 58 536870911 HT_ ?_;refine p1_ 29 1073741823 ?_;refine p1_ 30 2147483647 ?_;refine uq_ [(31,34),(32,35),(33,36)] 24 58 17179869183 HT_ ?_;refine p1_ 34 34359738367 ?_;refine p1_ 35 68719476735 ?_;refine uq_ [(36,39),(37,40),(38,41),(39,42),(40,43),(41,44),(42,45)] 15 58 8796093022207 HT_ ?_;refine p1_ 43 17592186044415 ?_;refine p1_ 44 35184372088831 ?_;refine uq_ [(45,48),(46,49),(47,50),(48,51)] 9 58 562949953421311 HT_ ?_;refine p1_ 49 1125899906842623 ?_;refine p1_ 50 2251799813685247 ?_;refine uq_ [(51,54),(52,55),(53,56),(54,57),(55,58)] 2 58 72057594037927935 HT_ ?_;refine p1_ 56 144115188075855871 ?_;refine p1_ 57 288230376151711743 ?_;refine dq_ HT_ ?_
   try go_wp2
   go_ret;exact⟨er_,bl_ HB⟩
 ·rw[if_neg c2]at H;have aR:decide (1≤a0_1)=false:=decide_eq_false c2;clear c2;obtain rfl:=Option.some.inj H
  go_enter Try.func15,Try.ntmps15
  try go_wp2_with (first|(refine gq_ 1 ?_;(try(refine gate_guard (by rfl) ?_;dsimp only));refine bx_ 1 #[.int .u64 a0_0,.int .i64 a0_1,.int .i64 a0_2,.slice A0_3 l0_3.length c0_3,.int .u64 a0_4,.int .i64 a0_5,.slice A0_6 l0_6.length c0_6] 28 ?_;intro aB hg bN hbox hb;have aA:=mk_ (hbox);have aE:=gx_ hg HB;have aF:=gx_ hg HB;replace HB:=bs_ HB hb;clear hb hbox hg))
  replace aA:=bd_ aA;replace HB:=bw_ HB;generalize hD_:bN.drew=cF at aA HB;refine sx_ (n:=58) (ds:=[]) hD_ (cz7_ aA) (fun hHeld=>?_);refine with_tabW elastic_Right.tab1 elastic_Right.bits1 (fun HT_ HW_=>?_);clear hD_;refine p1_ 0 1 ?_;refine t1_ 1 3 ?_;refine p1_ 2 7 ?_;refine p1_ 3 15 ?_;refine uq_ [(4,7),(5,8),(6,9)] 51 58 127 HT_ ?_;refine p1_ 7 255 ?_;refine p1_ 8 511 ?_;refine uq_ [(9,12),(10,13),(11,14)] 46 58 4095 HT_ ?_;refine p1_ 12 8191 ?_;refine p1_ 13 16383 ?_;refine uq_ [(14,17),(15,18),(16,19)] 41 58 131071 HT_ ?_;refine p1_ 17 262143 ?_;refine p1_ 18 524287 ?_;refine uq_ [(19,22),(20,23),(21,24),(22,25)] 35 58 8388607 HT_ ?_;refine p1_ 23 16777215 ?_;refine p1_ 24 33554431 ?_;refine uq_ [(25,28),(26,29),(27,30),(28,31)] 29 58 536870911 HT_ ?_;refine p1_ 29 1073741823 ?_;refine p1_ 30 2147483647 ?_;refine uq_ [(31,34),(32,35),(33,36)] 24 58 17179869183 HT_ ?_;refine p1_ 34 34359738367 ?_;refine p1_ 35 68719476735 ?_;refine uq_ [(36,39),(37,40),(38,41),(39,42),(40,43),(41,44),(42,45)] 15 58 8796093022207 HT_ ?_;refine p1_ 43 17592186044415 ?_;refine p1_ 44 35184372088831 ?_;refine uq_ [(45,48),(46,49),(47,50),(48,51)] 9 58 562949953421311 HT_ ?_;refine p1_ 49 1125899906842623 ?_;refine p1_ 50 2251799813685247 ?_;refine uq_ [(51,54),(52,55),(53,56),(54,57),(55,58)] 2 58 72057594037927935 HT_ ?_;refine p1_ 56 144115188075855871 ?_;refine p1_ 57 288230376151711743 ?_;refine dq_ HT_ ?_
  try go_wp2
  go_ret;exact⟨er_,bl_ HB⟩
end Go.Proofs.Ytljmjjeghebdpaa.PElasticTurns
