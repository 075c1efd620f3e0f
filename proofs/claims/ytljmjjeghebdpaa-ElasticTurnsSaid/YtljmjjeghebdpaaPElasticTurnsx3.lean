/- Functions, each as a plain function, with the proof that a call comes to its answer. Condition of each: the arguments read as the data that it names, and the plain function has an answer. -/
import Derived.Test.YtljmjjeghebdpaaPElasticTurnsx0
import Derived.Test.YtljmjjeghebdpaaPElasticTurnsx1
import Derived.Test.YtljmjjeghebdpaaPElasticTurnsx2
import Derived.Test.YtljmjjeghebdpaaShort
import Derived.Lib.SliceRun
import Derived.Shelf.Abstract
import Derived.StillTailTactics
import Derived.Test.YtljmjjeghebdpaaPressMore
namespace Go.Proofs.Ytljmjjeghebdpaa.PElasticTurns
open Go.RowKit Go.Proofs.YtljmjjeghebdpaaW.PrintWords Go.Proofs.YtljmjjeghebdpaaW.PrintLast Go.Proofs.YtljmjjeghebdpaaW.PrintMore Go.Proofs.Ytljmjjeghebdpaa.Short Go.Proofs.Ytljmjjeghebdpaa.Press Go.Proofs.Ytljmjjeghebdpaa.PressMore
set_option maxHeartbeats 80000000
set_option maxRecDepth 100000
attribute [local go_sem] max2_int min2_int max_two min_two max_three min_three max_four min_four
set_option linter.unusedVariables false
set_option linter.unusedSimpArgs false
def field_Pow.l0:Nat→Int→Int→Int→Option (Int)
  |0,_,_,_=>none
  |k+1,a,b,c=>if b>0 then(if(Go.bits .and .u64 b 1)=1 then((field_Mul.f c a).bind fun t155=>((field_Mul.f a a).bind fun t156=>(field_Pow.l0 k t156 (b/2) t155)))else((field_Mul.f a a).bind fun t157=>(field_Pow.l0 k t157 (b/2) c)))else(some c)
def field_Pow.f (k:Nat)(a0 a1:Int):Option (Int):=(field_Of.f a0).bind fun t154=>(field_Pow.l0 k t154 a1 1)
theorem field_Pow.mono_l:∀k,(∀y0 y1 y2,LeO (field_Pow.l0 k y0 y1 y2) (field_Pow.l0 (k+1) y0 y1 y2))
  |0=>fun _ _ _ r h=>by simp[field_Pow.l0]at h
  |k+1=>by
    have ih0:=field_Pow.mono_l k
    · intro y0 y1 y2
      unfold field_Pow.l0
      repeat' with_reducible first|exact ih0 .. |exact LeO.refl _|exact LeO.none _|refine LeO.ite ?_ ?_|refine LeO.bind ?_ (fun _=>?_)
theorem field_Pow.mono:∀a0 a1 k,LeO (field_Pow.f k a0 a1) (field_Pow.f (k+1) a0 a1):=by
  intro a0 a1 k
  have ih0:=field_Pow.mono_l k
  unfold field_Pow.f
  repeat' with_reducible first|exact ih0 .. |exact LeO.refl _|exact LeO.none _|refine LeO.ite ?_ ?_|refine LeO.bind ?_ (fun _=>?_)
theorem field_Pow.calls (k:Nat)(a0 a1 r:Int)(w:World)(h:field_Pow.f k a0 a1=some r):
    Calls Try.prog 83 #[.int .u64 a0,.int .u64 a1] w fun e w'=>e=.returned (.int .u64 r)∧Drawn0 w w':=by
 have H:=h;clear h;unfold field_Pow.f at H;replace H:=bi_ H;obtain⟨aE,A3,H⟩:=H;have H':=mk_ H;clear H
 go_enter Try.func83,Try.ntmps83
 go_wp2_with (first|(refine gk_ 79 ?_;refine gd_ (some 7) Try.func79 (field_Of.calls a0 aE _ A3.out) ?_;rintro w' ⟨nd,rfl⟩))
 go_loopg [0,1,5] k (fun kq v0 v1 v5 w'=>∃(aC aA aD:Int),v0=.int .u64 aC∧v1=.int .u64 aA∧v5=.int .u64 aD∧Aside0 (field_Pow.l0 kq aC aA aD=some r)∧Aside0 (kq≤k)∧Drawn0 w w')
 case atStart=>exact⟨(aE),(a1),(1),eq_,eq_,eq_,H',⟨Nat.le_refl _⟩,by repeat(first|exact Drawn0.refl _|apply Drawn0.step)⟩
 case round=>
  clear H';obtain⟨aC,aA,aD,rfl,rfl,rfl,HA,HK1,⟨m1,rfl⟩⟩:=hrel
  cases gk with
  |zero=>exact absurd HA.out (by simp[field_Pow.l0])
  |succ k1=>
   have H:=HA.out;clear HA;simp only[field_Pow.l0]at H
   by_cases c4:aA>0
   ·rw[if_pos c4]at H;have aP:decide (0<aA)=true:=decide_eq_true c4;clear c4
    by_cases c5:(Go.bits .and .u64 aA 1)=1
    ·rw[if_pos c5]at H;have aQ:=beq_iff_eq.mpr c5;have aT:=bne_eq_false_iff_eq.mpr c5;clear c5;replace H:=bi_ H;obtain⟨aH,A6,H⟩:=H;replace H:=bi_ H;obtain⟨aG,A7,H⟩:=H;have H':=mk_ H;clear H
     go_wp2_with (first|(refine gk_ 68 ?_;refine gd_ (some 17) Try.func68 (field_Mul.calls aD aC aH _ A6.out) ?_;rintro w' ⟨nd,rfl⟩)|(refine gk_ 68 ?_;refine gd_ (some 20) Try.func68 (field_Mul.calls aC aC aG _ A7.out) ?_;rintro w' ⟨nd,rfl⟩))
     go_roundg k1
     case measure=>have:=HK1.out;omega
     case rel=>exact⟨(aG),(aA/2),(aH),eq_,eq_,eq_,H',⟨by have:=HK1.out;omega⟩,by repeat(first|exact Drawn0.refl _|apply Drawn0.step)⟩
    ·rw[if_neg c5]at H;have aQ:=beq_eq_false_iff_ne.mpr c5;have aT:=bne_iff_ne.mpr c5;replace H:=bi_ H;obtain⟨aI,A8,H⟩:=H;have H':=mk_ H;clear H
     go_wp2_with (first|(refine gk_ 68 ?_;refine gd_ (some 20) Try.func68 (field_Mul.calls aC aC aI _ A8.out) ?_;rintro w' ⟨nd,rfl⟩))
     go_roundg k1
     case measure=>have:=HK1.out;omega
     case rel=>exact⟨(aI),(aA/2),(aD),eq_,eq_,eq_,H',⟨by have:=HK1.out;omega⟩,by repeat(first|exact Drawn0.refl _|apply Drawn0.step)⟩
   ·rw[if_neg c4]at H;have aP:decide (0<aA)=false:=decide_eq_false c4;clear c4;obtain rfl:=Option.some.inj H
    go_wp2
    go_ret;exact⟨by first|rfl|(simp;done)|(simp[*];done),by repeat(first|exact Drawn0.refl _|apply Drawn0.step)⟩
mutual
def hash_Sum.l0:Nat→ByteArray→Int→Int→Int→Option (Int)
  |0,_,_,_,_=>none
  |k+1,a,b,c,d=>if d<(a.size:Int)then(hash_Sum.l1 k a b c d 0 0)else((field_Mul.f c b).bind fun t159=>((field_Pow.f k t159 17).bind fun t160=>(some t160)))
def hash_Sum.l1:Nat→ByteArray→Int→Int→Int→Int→Int→Option (Int)
  |0,_,_,_,_,_,_=>none
  |k+1,a,b,c,d,e,g=>if g<4 then(if(wrap64 (d+g))<(a.size:Int)then(if 0≤(wrap64 (d+g))then(hash_Sum.l1 k a b c d (Go.bits .or .u64 (IntKind.u64.wrap (e*256)) (IntKind.u64.wrap (bt a (wrap64 (d+g))))) (wrap64 (g+1)))else(none))else(hash_Sum.l1 k a b c d (IntKind.u64.wrap (e*256)) (wrap64 (g+1))))else((field_Mul.f c b).bind fun t161=>((field_Add.f t161 (IntKind.u64.wrap (e+1))).bind fun t162=>(hash_Sum.l0 k a b t162 (wrap64 (d+4)))))
end
def hash_Sum.f (k:Nat)(a0:Int)(a1:ByteArray):Option (Int):=(field_Add.f a0 2).bind fun t158=>(hash_Sum.l0 k a1 t158 (IntKind.u64.wrap ((a1.size:Int))) 0)
theorem hash_Sum.mono_l:∀k,(∀y0 y1 y2 y3,LeO (hash_Sum.l0 k y0 y1 y2 y3) (hash_Sum.l0 (k+1) y0 y1 y2 y3))∧(∀y0 y1 y2 y3 y4 y5,LeO (hash_Sum.l1 k y0 y1 y2 y3 y4 y5) (hash_Sum.l1 (k+1) y0 y1 y2 y3 y4 y5))
  |0=>⟨fun _ _ _ _ r h=>by simp[hash_Sum.l0]at h,fun _ _ _ _ _ _ r h=>by simp[hash_Sum.l1]at h⟩
  |k+1=>by
    obtain⟨ih0,ih1⟩:=hash_Sum.mono_l k
    refine⟨?_,?_⟩<;>intros
    all_goals first|unfold hash_Sum.l0|unfold hash_Sum.l1
    all_goals repeat' with_reducible first|exact ih0 .. |exact ih1 .. |exact field_Pow.mono .. |exact LeO.refl _|exact LeO.none _|refine LeO.ite ?_ ?_|refine LeO.bind ?_ (fun _=>?_)
theorem hash_Sum.mono:∀a0 a1 k,LeO (hash_Sum.f k a0 a1) (hash_Sum.f (k+1) a0 a1):=by
  intro a0 a1 k
  obtain⟨ih0,ih1⟩:=hash_Sum.mono_l k
  unfold hash_Sum.f
  repeat' with_reducible first|exact ih0 .. |exact ih1 .. |exact field_Pow.mono .. |exact LeO.refl _|exact LeO.none _|refine LeO.ite ?_ ?_|refine LeO.bind ?_ (fun _=>?_)
theorem hash_Sum.calls (k:Nat)(a0:Int)(a1:ByteArray)(r:Int)(w:World)(h:hash_Sum.f k a0 a1=some r):
    Calls Try.prog 74 #[.int .u64 a0,.string a1] w fun e w'=>e=.returned (.int .u64 r)∧Drawn0 w w':=by
 have H:=h;clear h;unfold hash_Sum.f at H;replace H:=bi_ H;obtain⟨aD,A3,H⟩:=H;have H':=mk_ H;clear H
 go_enter Try.func74,Try.ntmps74
 go_wp2_with (first|(refine gk_ 67 ?_;refine gd_ (some 11) Try.func67 (field_Add.calls a0 2 aD _ A3.out) ?_;rintro w' ⟨nd,rfl⟩))
 go_loopg [6,7] k (fun kq v6 v7 w'=>∃(aE aA:Int),v6=.int .u64 aE∧v7=.int .i64 aA∧Aside0 (hash_Sum.l0 kq a1 aD aE aA=some r)∧Aside0 (kq≤k)∧Drawn0 w w')
 case atStart=>exact⟨(IntKind.u64.wrap ((a1.size:Int))),(0),eq_,eq_,H',⟨Nat.le_refl _⟩,by repeat(first|exact Drawn0.refl _|apply Drawn0.step)⟩
 case round=>
  clear H';obtain⟨aE,aA,rfl,rfl,HA,HK1,⟨m1,rfl⟩⟩:=hrel
  cases gk with
  |zero=>exact absurd HA.out (by simp[hash_Sum.l0])
  |succ k1=>
   have H:=HA.out;clear HA;simp only[hash_Sum.l0]at H
   rcases ic_ H with⟨aN,h_⟩|⟨aN,h_⟩
   ·clear H;have H:=h_;clear h_;have H':=mk_ H;clear H
    go_wp2
    go_loopg [8,21] k1 (fun kq v8 aW w'=>∃(aG aC:Int),v8=.int .u64 aG∧aW=.int .i64 aC∧Aside0 (hash_Sum.l1 kq a1 aD aE aA aG aC=some r)∧Aside0 (kq≤k1)∧Drawn0 w w')
    case atStart=>exact⟨(0),(0),eq_,eq_,H',⟨Nat.le_refl _⟩,by repeat(first|exact Drawn0.refl _|apply Drawn0.step)⟩
    case round=>
     clear H';(try clear aN);obtain⟨aG,aC,rfl,rfl,HA,HK2,⟨m2,rfl⟩⟩:=hrel
     cases gk with
     |zero=>exact absurd HA.out (by simp[hash_Sum.l1])
     |succ k2=>
      have H:=HA.out;clear HA;simp only[hash_Sum.l1]at H
      rcases ic_ H with⟨aX,h_⟩|⟨aX,h_⟩
      ·clear H;have H:=h_;clear h_
       rcases ic_ H with⟨aP,h_⟩|⟨aP,h_⟩
       ·clear H;have H:=h_;clear h_;obtain⟨ji7,hji7⟩:∃j_:Int,(wrap64 (aA+aC))=j_:=⟨_,rfl⟩
        (first|rw[hji7]at H|simp only[hji7]at H)
        (try rw[hji7]at aP);have hji7w:(IntKind.i64.wrap (aA+aC))=ji7:=(i64_w _).trans hji7;replace H:=it_ H;obtain⟨bC,H⟩:=H;have H':=mk_ H;clear H;have p9:0≤((ji7):Int):=od_;have q9:(ji7)<(a1.size:Int):=od_;have hx9:=bt_at a1 (ji7);replace p9:=eq_true p9;replace q9:=eq_true q9
        go_wp2
        go_roundg k2
        case measure=>have:=HK1.out;have:=HK2.out;omega
        case rel=>exact⟨(Go.bits .or .u64 (IntKind.u64.wrap (aG*256)) (IntKind.u64.wrap (bt a1 (ji7)))),(wrap64 (aC+1)),(by first|rfl|(simp;done)|(simp only[←hji7]<;>(first|rfl|simp))|(simp[*];done)),eq_,H',⟨by have:=HK1.out;have:=HK2.out;omega⟩,by repeat(first|exact Drawn0.refl _|apply Drawn0.step)⟩
       ·clear H;have H:=h_;clear h_;have H':=mk_ H;clear H
        go_wp2
        go_roundg k2
        case measure=>have:=HK1.out;have:=HK2.out;omega
        case rel=>exact⟨(IntKind.u64.wrap (aG*256)),(wrap64 (aC+1)),eq_,eq_,H',⟨by have:=HK1.out;have:=HK2.out;omega⟩,by repeat(first|exact Drawn0.refl _|apply Drawn0.step)⟩
      ·clear H;have H:=h_;clear h_;replace H:=bi_ H;obtain⟨aI,aY,H⟩:=H;replace H:=bi_ H;obtain⟨aH,aZ,H⟩:=H;have H':=mk_ H;clear H
       go_wp2_with (first|(refine gk_ 68 ?_;refine gd_ (some 43) Try.func68 (field_Mul.calls aE aD aI _ aY.out) ?_;rintro w' ⟨nd,rfl⟩)|(refine gk_ 67 ?_;refine gd_ (some 46) Try.func67 (field_Add.calls aI (IntKind.u64.wrap (aG+1)) aH _ aZ.out) ?_;rintro w' ⟨nd,rfl⟩))
       go_roundg k2
       case measure=>have:=HK1.out;have:=HK2.out;omega
       case rel=>exact⟨(aH),(wrap64 (aA+4)),eq_,eq_,H',⟨by have:=HK1.out;have:=HK2.out;omega⟩,by repeat(first|exact Drawn0.refl _|apply Drawn0.step)⟩
   ·clear H;have H:=h_;clear h_;replace H:=bi_ H;obtain⟨aJ,bA,H⟩:=H;replace H:=bi_ H;obtain⟨aK,bB,H⟩:=H;obtain rfl:=Option.some.inj H
    go_wp2_with (first|(refine gk_ 68 ?_;refine gd_ (some 49) Try.func68 (field_Mul.calls aE aD aJ _ bA.out) ?_;rintro w' ⟨nd,rfl⟩)|(refine gk_ 83 ?_;refine gd_ (some 50) Try.func83 (field_Pow.calls k1 aJ 17 aK _ bB.out) ?_;rintro w' ⟨nd,rfl⟩))
    go_ret;exact⟨by first|rfl|(simp;done)|(simp[*];done),by repeat(first|exact Drawn0.refl _|apply Drawn0.step)⟩
def hash_Cell.f (k:Nat)(a0:Int)(a1:ByteArray)(a2:Int):Option (Int):=if a2<1 then(some 0)else((hash_Sum.f k a0 a1).bind fun t163=>(if(IntKind.u64.wrap (a2))=0 then(none)else(some (wrap64 (Int.tmod t163 (IntKind.u64.wrap (a2)))))))
theorem hash_Cell.mono:∀a0 a1 a2 k,LeO (hash_Cell.f k a0 a1 a2) (hash_Cell.f (k+1) a0 a1 a2):=by
  intro a0 a1 a2 k
  unfold hash_Cell.f
  repeat' with_reducible first|exact hash_Sum.mono .. |exact LeO.refl _|exact LeO.none _|refine LeO.ite ?_ ?_|refine LeO.bind ?_ (fun _=>?_)
theorem hash_Cell.calls (k:Nat)(a0:Int)(a1:ByteArray)(a2 r:Int)(w:World)(h:hash_Cell.f k a0 a1 a2=some r):
    Calls Try.prog 55 #[.int .u64 a0,.string a1,.int .i64 a2] w fun e w'=>e=.returned (.int .i64 r)∧Drawn0 w w':=by
 have H:=h;clear h;unfold hash_Cell.f at H
 rcases ic_ H with⟨aD,h_⟩|⟨aD,h_⟩
 ·clear H;have H:=h_;clear h_;obtain rfl:=Option.some.inj H
  go_enter Try.func55,Try.ntmps55
  go_wp2
  go_ret;exact⟨by first|rfl|(simp;done)|(simp[*];done),by repeat(first|exact Drawn0.refl _|apply Drawn0.step)⟩
 ·clear H;have H:=h_;clear h_;replace H:=bi_ H;obtain⟨aA,A5,H⟩:=H
  by_cases c6:(IntKind.u64.wrap (a2))=0
  ·rw[if_pos c6]at H;exact absurd H (by simp)
  ·rw[if_neg c6]at H;have aE:=beq_eq_false_iff_ne.mpr c6;have aG:=bne_iff_ne.mpr c6;obtain rfl:=Option.some.inj H
   go_enter Try.func55,Try.ntmps55
   go_wp2_with (first|(refine gk_ 74 ?_;refine gd_ (some 11) Try.func74 (hash_Sum.calls k a0 a1 aA _ A5.out) ?_;rintro w' ⟨nd,rfl⟩))
   go_ret;exact⟨by first|rfl|(simp;done)|(simp[*];done),by repeat(first|exact Drawn0.refl _|apply Drawn0.step)⟩
def elastic_bucket.f (k:Nat)(a0_0 a0_1 a0_2:Int)(l0_3:List (S56))(a0_4 a0_5:Int)(l0_6:List (List Int))(a1:ByteArray):Option (Int):=(hash_Row.f a0_0 0).bind fun t165=>((hash_Cell.f k t165 a1 (l0_3.length:Int)).bind fun t166=>(some t166))
theorem elastic_bucket.mono:∀a0 a1 a2 a3 a4 a5 a6 a7 k,LeO (elastic_bucket.f k a0 a1 a2 a3 a4 a5 a6 a7) (elastic_bucket.f (k+1) a0 a1 a2 a3 a4 a5 a6 a7):=by
  intro a0 a1 a2 a3 a4 a5 a6 a7 k
  unfold elastic_bucket.f
  repeat' with_reducible first|exact hash_Cell.mono .. |exact LeO.refl _|exact LeO.none _|refine LeO.ite ?_ ?_|refine LeO.bind ?_ (fun _=>?_)
def elastic_bucket.T1:Bool × List (List Nat × List Nat):=(true,[([],[]),([0],[0]),([1],[1]),([],[]),([],[]),([4],[4]),([5],[5]),([2,3,6,2],[2,3,6]),([7,7,0,1,2,3,4,5,6,7],[7])])
def elastic_bucket.B1:List Nat:=[0,1,3,0,0,16,48,127,255]
theorem elastic_bucket.tab1:rtab .any (opsOf Try.f28 1)=elastic_bucket.T1:=by kernel_rfl
theorem elastic_bucket.bits1:waitsOk elastic_bucket.T1.2 elastic_bucket.B1=true:=by kernel_rfl
theorem elastic_bucket.calls (k:Nat)(a0_0 a0_1 a0_2:Int)(A0_3:Option Addr)(c0_3:Nat)(l0_3:List (S56))(a0_4 a0_5:Int)(A0_6:Option Addr)(c0_6:Nat)(l0_6:List (List Int))(a1:ByteArray)(r:Int)(w:World)(hr0_3:Kd.C k56 w A0_3 l0_3.length l0_3)(hc0_3:l0_3.length≤c0_3)(hr0_6:Kd.C (Kd.slice 3 (Kd.int .i64)) w A0_6 l0_6.length l0_6)(hc0_6:l0_6.length≤c0_6)(h:elastic_bucket.f k a0_0 a0_1 a0_2 l0_3 a0_4 a0_5 l0_6 a1=some r):
    Calls Try.prog 28 #[.agg #[.int .u64 a0_0,.int .i64 a0_1,.int .i64 a0_2,.slice A0_3 l0_3.length c0_3,.int .u64 a0_4,.int .i64 a0_5,.slice A0_6 l0_6.length c0_6],.string a1] w fun e w'=>e=.returned (.int .i64 r)∧Below w.heap.size w w':=by
 have hu28:=Try.underlying28;have aI:=mk_ hr0_3;have aJ:=mk_ hc0_3;clear hr0_3 hc0_3;have aK:=mk_ hr0_6;have aM:=mk_ hc0_6;clear hr0_6 hc0_6;have HB:=mk_ (Below.refl w.heap.size w);have H:=h;clear h;unfold elastic_bucket.f at H;replace H:=bi_ H;obtain⟨aD,A3,H⟩:=H;replace H:=bi_ H;obtain⟨aE,A4,H⟩:=H;obtain rfl:=Option.some.inj H
 go_enter Try.func28,Try.ntmps28
 try go_wp2_with (first|(refine gq_ 2 ?_;refine bx_ 2 #[.int .u64 a0_0,.int .i64 a0_1,.int .i64 a0_2,.slice A0_3 l0_3.length c0_3,.int .u64 a0_4,.int .i64 a0_5,.slice A0_6 l0_6.length c0_6] 28 ?_;intro aC hg w5 hbox hb;have aA:=mk_ (hbox);have aN:=gx_ hg HB;have aP:=gx_ hg HB;replace HB:=bs_ HB hb;clear hb hbox hg))
 replace aA:=bd_ aA;replace HB:=bw_ HB;generalize hD_:w5.drew=w6 at aA HB;refine sx_ (n:=9) (ds:=[]) hD_ (cz7_ aA) (fun hHeld=>?_);refine with_tabW elastic_bucket.tab1 elastic_bucket.bits1 (fun HT_ HW_=>?_);clear hD_;refine p1_ 0 1 ?_
 refine p1_ 3 9 ?_
 refine p1_ 4 25 ?_
 refine t1_ 1 27 ?_
 refine t1_ 5 59 ?_
 refine p1_ 6 123 ?_
 refine oq_ 2 (some 7) 9 127 HT_ (fun K hK=>?_);refine gt_ Try.func43 (hash_Row.calls a0_0 0 aD _ A3.out) ?_
 intro w7 hb;replace aA:=bb_ aA hb;replace HB:=bs_ HB hb;(try clear hb);refine hK.out _ _ hl_ (fun hHeld=>?_);clear hK K;refine nm_ 7 ?_
 refine oq_ 7 (some 12) 9 255 HT_ (fun K hK=>?_);refine gr_ Try.func55 (hash_Cell.calls k aD a1 (l0_3.length:Int) aE _ A4.out) ?_
 rintro e w' ⟨rfl,⟨nd,rfl⟩⟩;(try replace aA:=mk_ (blk_drewN aA.out nd));(try replace HB:=mk_ (pw_below_drewN HB.out nd));refine⟨_,rfl,?_⟩;refine hK.out _ _ hl_ (fun hHeld=>?_);clear hK K;refine nm_ 12 ?_
 refine p1_ 8 511 ?_
 refine dq_ HT_ ?_
 try go_wp2
 go_ret;exact⟨er_,bl_ HB⟩
def elastic_Entry_29.f (l0:List (S76)):Option ((List (S76))):=(some (([]:List (S76)):List (S76))).bind fun y167=>(if y167.length+l0.length<4398046511104 then(some (y167++l0))else(none))
theorem elastic_Entry_29.calls (A0:Option Addr)(c0:Nat)(l0 r:List (S76))(w:World)(hr0:Kd.C k76 w A0 l0.length l0)(hc0:l0.length≤c0)(h:elastic_Entry_29.f l0=some r):
    Calls Try.prog 29 #[.slice A0 l0.length c0] w fun e w'=>∃v0_:Value,e=.returned (v0_)∧Kd.R k76 76 w' w.heap.size (fun _=>True) v0_ r∧Below w.heap.size w w':=by
 have HR0:=mk_ hr0;have HC0:=mk_ hc0;clear hr0 hc0;have HB:=mk_ (Below.refl w.heap.size w);have H:=h;clear h;unfold elastic_Entry_29.f at H;obtain⟨y167,hy167⟩:∃y_:List (S76),y_=(([]:List (S76))):=⟨_,rfl⟩
 (try replace H:=(Option.bind_some _ _).symm.trans H);(try rw[←hy167]at H)
 have aA:=mk_ hy167;clear hy167
 replace H:=ip_ H;obtain⟨c2,H⟩:=H;have aE:=mk_ c2;clear c2;obtain⟨y170,hy170⟩:∃y_:List (S76),y_=(y167++l0):=⟨_,rfl⟩
 (try replace H:=(Option.bind_some _ _).symm.trans H);(try rw[←hy170]at H)
 have aC:=mk_ hy170;clear hy170;obtain rfl:=Option.some.inj H
 rcases A0 with _|A0
 ·have hz:=HR0.out.2.2
  rcases l0 with _|⟨x0_,l0⟩
  ·have hq_:∀(W:World)(n c:Nat),(binOp .eql 54 (.slice none n c) (.slice none 0 0)).run Try.prog W=.ok (.bool true) W:=fun W n c=>Lib.run_eql_slice_nil W 54 _ none n c 0 0 Try.underlying54
   go_enter Try.func29,Try.ntmps29
   go_wp2
   go_ret;refine⟨.slice none 0 0,rfl,?_,HB.out⟩
   first|exact Kd.R_nil _ _ _ _ _|(simp only[aC.out,aA.out,List.nil_append];first|exact Kd.R_nil _ _ _ _ _|exact Kd.N_nil _ _ _ _ _|exact Kd.V_nil _ _ _ _ _)
  ·obtain⟨ad,h_,_⟩:=hz (by simp)
   cases h_
 ·have hq_:∀(W:World)(n c:Nat),(binOp .eql 54 (.slice (some A0) n c) (.slice none 0 0)).run Try.prog W=.ok (.bool false) W:=fun W n c=>Lib.run_eql_slice_nil W 54 _ (some A0) n c 0 0 Try.underlying54
  go_enter Try.func29,Try.ntmps29
  go_wp2_with (first|(refine gq_ 5 ?_;refine Kd.R_lit k76 _ 76 ?hg (N:=5) ?hd (xs:=([]:List (S76))) (inner:=[]) (ok:=fun _=>True) (okp:=fun _=>True) ?hr ?hp (fun _ hk=>hk) trivial (Below.refl _ _) (Nat.le_refl _) (by simp) ?_;(case hd=>rfl);(case hg=>rfl);(case hr=>first|(go_simp;done)|(go_simp;rfl));(case hp=>exact(Reps.none _ _));intro aG w3 ho4 hb hg_ hnew_;clear hg_ hnew_;(first|rw[←aA.out]at ho4|(simp only[Int.reduceToNat]at ho4;rw[←aA.out]at ho4));have aD:=mk_ (Kd.R_lower ho4 (below_size (bl_ HB)));replace HB:=bs_ HB hb;clear hb ho4)|((with_reducible refine gate_builtin (b:=.append) (xs:=#[.tmp 5,.tmp 6]) rfl ?_);at_builtin;refine Kd.R_append_rows k76 (w0:=w) w.heap.size rfl (.tmp 5) (.tmp 6) 54 76 (.agg #[(.string ⟨#[]⟩),(.int .i64 0),(.bool false)]) 32 rfl Try.underlying54 info76 rfl (by decide) (by omega) aG y167 l0 _ _ _ (fun _=>True) (fun _=>False) rfl rfl ?aO ?aR (fun _ _ h=>h) (fun _ h=>h.elim) ?aF ?aB ?aS ?aL ?_;(case aR=>repeat(first|exact(Kd.C_below HR0.out HB.out)|(with_reducible refine Kd.C_alloc ?_ _)|(with_reducible refine Kd.C_drewN ?_ _)|(with_reducible refine Kd.C_drew ?_)));(case aB=>exact(bl_ HB));(case aF=>exact(fun _ _=>trivial));(case aO=>exact(rk_ aD));(case aS=>exact(below_size (bl_ HB)));(case aL=>have:=aE.out;omega);intro aI w5 ho hb hg hat;rw[←aC.out]at ho;have aH:=mk_ (ho);replace HB:=mk_ (hb);clear aD;clear ho hb hg hat))
  go_ret;exact⟨_,er_,by(with_reducible repeat(first|apply Kd.R_alloc|apply Kd.R_drewN|apply Kd.R_drew));exact aH.out,bl_ HB⟩
def slices_Clone_int_int.f (l0:List Int):Option (List Int):=(some (([]:List Int):List Int)).bind fun y173=>(if y173.length+l0.length<17592186044416 then(some (y173++l0))else(none))
theorem slices_Clone_int_int.calls (A0:Option Addr)(c0:Nat)(l0 r:List Int)(w:World)(hr0:Kd.C (Kd.int .i64) w A0 l0.length l0)(hc0:l0.length≤c0)(h:slices_Clone_int_int.f l0=some r):
    Calls Try.prog 84 #[.slice A0 l0.length c0] w fun e w'=>∃v0_:Value,e=.returned (v0_)∧Kd.R (Kd.int .i64) 3 w' w.heap.size (fun _=>True) v0_ r∧Below w.heap.size w w':=by
 have HR0:=mk_ hr0;have HC0:=mk_ hc0;clear hr0 hc0;have HB:=mk_ (Below.refl w.heap.size w);have H:=h;clear h;unfold slices_Clone_int_int.f at H;obtain⟨y173,hy173⟩:∃y_:List Int,y_=(([]:List Int)):=⟨_,rfl⟩
 (try replace H:=(Option.bind_some _ _).symm.trans H);(try rw[←hy173]at H)
 have aA:=mk_ hy173;clear hy173
 replace H:=ip_ H;obtain⟨c2,H⟩:=H;have aE:=mk_ c2;clear c2;obtain⟨y176,hy176⟩:∃y_:List Int,y_=(y173++l0):=⟨_,rfl⟩
 (try replace H:=(Option.bind_some _ _).symm.trans H);(try rw[←hy176]at H)
 have aC:=mk_ hy176;clear hy176;obtain rfl:=Option.some.inj H
 rcases A0 with _|A0
 ·have hz:=HR0.out.2.2
  rcases l0 with _|⟨x0_,l0⟩
  ·have hq_:∀(W:World)(n c:Nat),(binOp .eql 57 (.slice none n c) (.slice none 0 0)).run Try.prog W=.ok (.bool true) W:=fun W n c=>Lib.run_eql_slice_nil W 57 _ none n c 0 0 Try.underlying57
   go_enter Try.func84,Try.ntmps84
   go_wp2
   go_ret;refine⟨.slice none 0 0,rfl,?_,HB.out⟩
   first|exact Kd.R_nil _ _ _ _ _|(simp only[aC.out,aA.out,List.nil_append];first|exact Kd.R_nil _ _ _ _ _|exact Kd.N_nil _ _ _ _ _|exact Kd.V_nil _ _ _ _ _)
  ·obtain⟨ad,h_,_⟩:=hz (by simp)
   cases h_
 ·have hq_:∀(W:World)(n c:Nat),(binOp .eql 57 (.slice (some A0) n c) (.slice none 0 0)).run Try.prog W=.ok (.bool false) W:=fun W n c=>Lib.run_eql_slice_nil W 57 _ (some A0) n c 0 0 Try.underlying57
  go_enter Try.func84,Try.ntmps84
  go_wp2_with (first|(refine gq_ 5 ?_;refine Kd.R_lit (Kd.int .i64) _ 3 ?hg (N:=5) ?hd (xs:=([]:List Int)) (inner:=[]) (ok:=fun _=>True) (okp:=fun _=>True) ?hr ?hp (fun _ hk=>hk) trivial (Below.refl _ _) (Nat.le_refl _) (by simp) ?_;(case hd=>rfl);(case hg=>rfl);(case hr=>first|(go_simp;done)|(go_simp;rfl));(case hp=>exact(Reps.none _ _));intro aG w3 ho4 hb hg_ hnew_;clear hg_ hnew_;(first|rw[←aA.out]at ho4|(simp only[Int.reduceToNat]at ho4;rw[←aA.out]at ho4));have aD:=mk_ (Kd.R_lower ho4 (below_size (bl_ HB)));replace HB:=bs_ HB hb;clear hb ho4)|((with_reducible refine gate_builtin (b:=.append) (xs:=#[.tmp 5,.tmp 6]) rfl ?_);at_builtin;refine Kd.R_append_rows (Kd.int .i64) (w0:=w) w.heap.size rfl (.tmp 5) (.tmp 6) 57 3 (.int .i64 0) 8 rfl Try.underlying57 info3 rfl (by decide) (by omega) aG y173 l0 _ _ _ (fun _=>True) (fun _=>False) rfl rfl ?aO ?aR (fun _ _ h=>h) (fun _ h=>h.elim) ?aF ?aB ?aS ?aL ?_;(case aR=>repeat(first|exact(Kd.C_below HR0.out HB.out)|(with_reducible refine Kd.C_alloc ?_ _)|(with_reducible refine Kd.C_drewN ?_ _)|(with_reducible refine Kd.C_drew ?_)));(case aB=>exact(bl_ HB));(case aF=>exact(fun _ _=>trivial));(case aO=>exact(rk_ aD));(case aS=>exact(below_size (bl_ HB)));(case aL=>have:=aE.out;omega);intro aI w5 ho hb hg hat;rw[←aC.out]at ho;have aH:=mk_ (ho);replace HB:=mk_ (hb);clear aD;clear ho hb hg hat))
  go_ret;exact⟨_,er_,by(with_reducible repeat(first|apply Kd.R_alloc|apply Kd.R_drewN|apply Kd.R_drew));exact aH.out,bl_ HB⟩
def least_clone.l0:Nat→List (List Int)→List (List Int)→Int→Int→Int→Int→List (List Int)→Option (Int × Int × (List (List Int)))
  |0,_,_,_,_,_,_,_=>none
  |k+1,a,b,c,d,e,g,h=>if d<c then(if 0≤d then(if d<(b.length:Int)then((slices_Clone_int_int.f (rd_L9 b d)).bind fun t185=>(if d<(a.length:Int)then(least_clone.l0 k (a.set (d:Int).toNat t185) b c (wrap64 (d+1)) e g h)else(none)))else(none))else(none))else(some (e,g,a))
def least_clone.f (k:Nat)(a0_0 a0_1:Int)(l0_2:List (List Int)):Option (Int × Int × (List (List Int))):=if 0≤(l0_2.length:Int)then(if((l0_2.length:Int):Int).toNat≤11728124029610 then(least_clone.l0 k (List.replicate ((l0_2.length:Int):Int).toNat []) l0_2 (l0_2.length:Int) 0 a0_0 a0_1 l0_2)else(none))else(none)
theorem least_clone.mono_l:∀k,(∀y0 y1 y2 y3 y4 y5 y6,LeO (least_clone.l0 k y0 y1 y2 y3 y4 y5 y6) (least_clone.l0 (k+1) y0 y1 y2 y3 y4 y5 y6))
  |0=>fun _ _ _ _ _ _ _ r h=>by simp[least_clone.l0]at h
  |k+1=>by
    have ih0:=least_clone.mono_l k
    · intro y0 y1 y2 y3 y4 y5 y6
      unfold least_clone.l0
      repeat' with_reducible first|exact ih0 .. |exact LeO.refl _|exact LeO.none _|refine LeO.ite ?_ ?_|refine LeO.bind ?_ (fun _=>?_)
theorem least_clone.mono:∀a0 a1 a2 k,LeO (least_clone.f k a0 a1 a2) (least_clone.f (k+1) a0 a1 a2):=by
  intro a0 a1 a2 k
  have ih0:=least_clone.mono_l k
  unfold least_clone.f
  repeat' with_reducible first|exact ih0 .. |exact LeO.refl _|exact LeO.none _|refine LeO.ite ?_ ?_|refine LeO.bind ?_ (fun _=>?_)
theorem least_clone.calls (k:Nat)(a0_0 a0_1:Int)(A0_2:Option Addr)(c0_2:Nat)(l0_2:List (List Int))(r1 r2:Int)(r3:List (List Int))(w:World)(hr0_2:Kd.C (Kd.slice 3 (Kd.int .i64)) w A0_2 l0_2.length l0_2)(hc0_2:l0_2.length≤c0_2)(h:least_clone.f k a0_0 a0_1 l0_2=some (r1,r2,r3)):
    Calls Try.prog 75 #[.agg #[.int .u64 a0_0,.int .i64 a0_1,.slice A0_2 l0_2.length c0_2]] w fun e w'=>∃v2_:Value,e=.returned (.agg #[.int .u64 r1,.int .i64 r2,v2_])∧Kd.S (Kd.slice 3 (Kd.int .i64)) 57 w' w.heap.size (fun _=>True) v2_ r3∧Below w.heap.size w w':=by
 have hu26:=Try.underlying26;have bK:=mk_ hr0_2;have cM:=mk_ hc0_2;clear hr0_2 hc0_2;have HB:=mk_ (Below.refl w.heap.size w);have H:=h;clear h;unfold least_clone.f at H
 replace H:=ip_ H;obtain⟨c2,H⟩:=H;have bL:=eq_true c2;have bM:=decide_eq_true c2;clear c2
 replace H:=ip_ H;obtain⟨c3,H⟩:=H;have bN:=eq_true c3;have bO:=decide_eq_true c3;clear c3;obtain⟨y181,hy181⟩:∃y_:List (List Int),y_=(List.replicate ((l0_2.length:Int):Int).toNat []):=⟨_,rfl⟩
 (try replace H:=(Option.bind_some _ _).symm.trans H);(try rw[←hy181]at H)
 have bE:=mk_ hy181;clear hy181;have H':=mk_ H;clear H
 go_enter Try.func75,Try.ntmps75
 go_wp2_with (first|(refine gq_ 1 ?_;refine bx_ 1 #[.int .u64 a0_0,.int .i64 a0_1,.slice A0_2 l0_2.length c0_2] 26 ?_;intro aH hg w4 hbox hb;have aA:=mk_ (hbox);have cN:=gx_ hg HB;have cO:=gx_ hg HB;replace HB:=bs_ HB hb;clear hb hbox hg)|(refine gq_ 2 ?_;refine bx_ 2 #[.int .u64 0,.int .i64 0,.slice none 0 0] 26 ?_;intro aI hg w5 hbox hb;have aD:=mk_ (hbox);have cP:=gx_ hg HB;have cQ:=gx_ hg HB;have bF:=nx_ hg aA;have:=bF.out;have aU:=ny_ hg aA;have:=aU.out;replace aA:=bb_ aA hb;replace HB:=bs_ HB hb;clear hb hbox hg;have:=cz3_ aA;have:=fz3_ aA)|(refine gq_ 9 ?_;refine Kd.S_make (Kd.slice 3 (Kd.int .i64)) _ 57 rfl (N:=9) rfl 24 _ _ rfl (l0_2.length:Int) rfl rfl Try.underlying24 (.slice none 0 0) 24 info57 rfl (by decide) (by omega) [] (ok:=fun _=>True) (okp:=fun _=>True) ⟨_,rfl,Kd.R_nil _ _ _ _ _⟩ (fun _ hk=>hk) trivial od_ (Nat.le_trans (Nat.mul_le_mul_right _ (od_:(l0_2.length:Int).toNat≤11728124029610)) (by omega)) (Below.refl _ _) (Nat.le_refl _) ?_;intro bV w8 ho9 hb hg_ hnew_;clear hg_ hnew_;(first|rw[←bE.out]at ho9|(simp only[Int.reduceToNat]at ho9;rw[←bE.out]at ho9));have bW:=mk_ (Kd.S_lower ho9 (below_size (bl_ HB)));replace aA:=bb_ aA hb;replace aD:=bb_ aD hb;replace HB:=bs_ HB hb;clear hb ho9;have:=cz3_ aA;have:=fz3_ aA))
 go_loopg [13] k (fun kq cD w'=>∃(aG:List (List Int))(aC:Int),cD=.int .i64 aC∧Aside0 (least_clone.l0 kq aG l0_2 (l0_2.length:Int) aC a0_0 a0_1 l0_2=some (r1,r2,r3))∧Aside0 (kq≤k)∧Aside0 (Kd.S (Kd.slice 3 (Kd.int .i64)) 57 w' w.heap.size (fun _=>True) bV aG)∧Aside0 (w'.heap[aH]? =some (.cells #[.int .u64 a0_0,.int .i64 a0_1,(.slice A0_2 l0_2.length c0_2)] 26 (0,0)))∧Aside0 (w'.heap[aI]? =some (.cells #[.int .u64 0,.int .i64 0,(.slice none 0 0)] 26 (0,0)))∧Aside0 (Below w.heap.size w w'))
 case atStart=>exact⟨(y181),(0),eq_,H',⟨Nat.le_refl _⟩,⟨sr_ bW⟩,⟨bk_ aA⟩,⟨bk_ aD⟩,⟨bl_ HB⟩⟩
 case round=>
  clear H';(try clear c2);(try clear bL);(try clear bM);(try clear c3);(try clear bN);(try clear bO);obtain⟨aG,aC,rfl,HA,HK1,aE,aA,aD,HB⟩:=hrel
  cases gk with
  |zero=>exact absurd HA.out (by simp[least_clone.l0])
  |succ k1=>
   have H:=HA.out;clear HA;simp only[least_clone.l0]at H
   rcases ic_ H with⟨cE,h_⟩|⟨cE,h_⟩
   ·clear H;have H:=h_;clear h_;replace H:=it_ H;obtain⟨cT,H⟩:=H;replace H:=it_ H;obtain⟨cU,H⟩:=H;replace H:=bi_ H;obtain⟨aN,cF,H⟩:=H;replace H:=it_ H;obtain⟨cV,H⟩:=H;obtain⟨y188,hy188⟩:∃y_:List (List Int),y_=(aG.set (aC:Int).toNat aN):=⟨_,rfl⟩
    (try replace H:=(Option.bind_some _ _).symm.trans H);(try rw[←hy188]at H)
    have cG:=mk_ hy188;clear hy188;have H':=mk_ H;clear H;obtain⟨aV,aW,cW,A184_0,c184_0,e184,aX,bH,hi184_0⟩:=aq_ (at_L9 bK.out aC)
    cases e184;(try replace aX:=bt_ HB aX);have cH:=mk_ hi184_0;have cI:=mk_ bH;clear hi184_0 bH
    go_wp2_with (first|(refine gk_ 84 ?_;refine gc_ (some 21) Try.func84 (slices_Clone_int_int.calls _ _ (rd_L9 l0_2 aC) aN _ ?side1 ?side2 cF.out) ?_;(case side1=>exact ck_ (Kd.C_below cH.out HB.out));(case side2=>exact cI.out);rintro e aY ⟨aQ,rfl,ho0,hb⟩;refine⟨_,rfl,?_⟩;have aT:=mk_ (Kd.R_lower ho0 (below_size (bl_ HB)));replace aE:=mk_ (Kd.S_elder' (sk_ aE) (Kd.R_base ho0) hb);replace aA:=bb_ aA hb;replace aD:=bb_ aD hb;replace HB:=bs_ HB hb;(try clear hb);(try clear hk);(try clear ho0);have aZ:0≤(aC:Int):=od_;have bA:(aC:Int)<((aG.length:Int):Int):=od_;obtain⟨go16,bI,eo16,bJ,gl16,cl16,HG16⟩:=Kd.S_form aE.out (by omega);(first|cases eo16|(injection eo16 with ea_ en_ ec_;(first|subst ea_|(injection ea_ with ea_;subst ea_));subst ec_;clear en_));have GB16:=mk_ bJ;have GG16:=mk_ HG16;clear bJ gl16 HG16;obtain⟨_,ce16,hcl16,hM16,hcc16,hfr16,_,_⟩:=Kd.S_elem aE.out [] (aC:Int) aZ bA;obtain⟨ve16_0,rfl,ge16_0⟩:=hM16;have cJ:=hcc16 0 _ rfl;have hf16_0:=hfr16 0;(try simp only[show((Kd.slice 3 (Kd.int .i64))).sz=1 from rfl,Nat.mul_one,Nat.add_zero]at cJ);(try simp only[show((Kd.slice 3 (Kd.int .i64))).sz=1 from rfl,Nat.mul_one,Nat.add_zero]at hf16_0);clear hcl16 hcc16 hfr16;(try clear hM16);replace aZ:=eq_true aZ;replace bA:=eq_true bA;have n_:=mk_ (Kd.S_mono (ok':=(fun k_=>some k_≠(aQ:Value).ownBlock)) aE.out (fun k_ hk=>hk.2));clear aE;have aE:=n_;clear n_;have HX18:=mk_ (show Kd.S (Kd.slice 3 (Kd.int .i64)) 57 aY w.heap.size (fun k_=>((fun _=>True)) k_∧¬((fun k_=>some k_=(aQ:Value).ownBlock)) k_) (.slice (some ⟨go16,0,none⟩) aG.length bI) aG from(sl_ (Kd.S_mono aE.out (fun k_ hk=>⟨trivial,fun e_=>hk e_⟩))));obtain⟨oki18,ce18,hcl18,hM18,hcc18,hfr18,hoki18,hH18⟩:=Kd.S_elem HX18.out [] (aC:Int) od_ (by have h_:(aC:Int)<((aG.length:Int):Int):=od_;first|exact h_|(have e_:=(Kd.S_reads' aE.out).1;omega)|simpa using h_);obtain⟨ve18_0,rfl,ge18_0⟩:=hM18;have HP18:=Kd.S_seg hH18 od_ (by have h_:(aC:Int)<((aG.length:Int):Int):=od_;first|exact h_|(have e_:=(Kd.S_reads' aE.out).1;omega)|simpa using h_) (seg:=[aQ]) (j:=0) (show 1≤1 from by decide) (x':=aN) (Kd.M_row (Kd.R_mono (Kd.R_tight rfl (Kd.R_mono (ok':=fun k_=>((fun _=>True)) k_∧k_≠go16) (Kd.R_apart' (aT.out) (Kd.S_typed aE.out) (by decide)) (fun k_ hk=>⟨trivial,fun e_=>(hk.2) (by rw[e_];rfl)⟩))) (fun _ h_=>Or.inr (h_)))) (fun _ hk=>hk) (fun k_ cK=>((Kd.R_mono (ok':=fun k_=>((fun _=>True)) k_∧k_≠go16) (Kd.R_apart' (aT.out) (Kd.S_typed aE.out) (by decide)) (fun k_ hk=>⟨trivial,fun e_=>(hk.2) (by rw[e_];rfl)⟩))).1 k_ cK.symm);have cL:=hcc18 0 _ rfl;(try simp only[show((Kd.slice 3 (Kd.int .i64))).sz=1 from rfl,Nat.mul_one,Nat.add_zero]at cL);have hf18_0:=hfr18 0;(try simp only[show((Kd.slice 3 (Kd.int .i64))).sz=1 from rfl,Nat.mul_one,Nat.add_zero]at hf18_0);clear hcl18 hcc18 hfr18 hoki18 hH18;(try clear hM18);(try simp only[show((Kd.slice 3 (Kd.int .i64))).sz=1 from rfl,Nat.mul_one,Nat.add_zero]at HP18))|((with_reducible refine gate_store (t:=57) (p:=22) rfl ?_);refine store_event (t:=57) (p:=22) (v:=?vo_w19) (w1:=(aY.setCell ⟨go16,(aC:Int).toNat,none⟩ (aQ))) ?hg ?ho ?hn ?hr ?_;(case ho=>rfl);(case hg=>rfl);(case hn=>rfl);(case hr=>first|(go_simp;done)|(go_simp;rfl)|(obtain⟨A_,c_,e_⟩:=Kd.R_slice aT.out;subst e_;first|(go_simp;done)|(go_simp;rfl)));intro bB hw;have hg:aY.grownBy bB (some go16):=(by rw[hw];exact HP18.2);have hp_:Kd.S (Kd.slice 3 (Kd.int .i64)) 57 bB w.heap.size (fun _=>True) (.slice (some ⟨go16,0,none⟩) aG.length bI) y188:=(by rw[hw,cG.out];exact HP18.1);clear HP18;replace aA:=mk_ (blk_grown (bk_ aA) hg (Kd.S_ne aE.out aA.out (by decide)));replace aD:=mk_ (blk_grown (bk_ aD) hg (Kd.S_ne aE.out aD.out (by decide)));replace aE:=mk_ (hp_);replace HB:=mk_ ((by rw[hw];exact below_set (HB.out) GB16.out:Below w.heap.size w bB));clear aT;clear hg hw hp_))
    go_roundg k1
    case measure=>have:=HK1.out;omega
    case rel=>exact⟨(y188),(wrap64 (aC+1)),eq_,H',⟨by have:=HK1.out;omega⟩,⟨sr_ aE⟩,⟨bk_ aA⟩,⟨bk_ aD⟩,⟨bl_ HB⟩⟩
   ·clear H;have H:=h_;clear h_;simp only[Option.some.injEq,Prod.mk.injEq]at H;obtain⟨rfl,rfl,rfl⟩:=H;obtain⟨bC,bD,eo20⟩:=Kd.S_slice aE.out;subst eo20;have:=cz3_ aA;have:=fz3_ aA;have:=cz3_ aD;have:=fz3_ aD
    go_wp2
    refine bodyPost_ret (results_cell_row rfl _ _ aI 26 #[.int .u64 a0_0,.int .i64 a0_1,.slice bC aG.length bD] (0,0) _ rfl (pu_ aD) Try.underlying26 rfl (by kernel_rfl)) rfl ?_
    exact⟨_,er_,by(with_reducible repeat(first|apply Kd.S_alloc|apply Kd.S_drewN|apply Kd.S_drew));exact Kd.S_mono (Kd.S_far (p:=⟨aI,2,none⟩) (Kd.S_far (p:=⟨aI,1,none⟩) (Kd.S_far (p:=⟨aI,0,none⟩) (sf_ aH (Kd.S_types (Kd.S_types aE.out aA.out (by decide)) aD.out (by decide)) (fun _ hk=>hk.1.2)) (fun _ hk=>hk.2) (.int .u64 a0_0)) (fun _ hk=>hk.2) (.int .i64 a0_1)) (fun _ hk=>hk.2) (.slice bC aG.length bD)) (fun _ hk=>trivial),bl_ HB⟩
mutual
def least_Add.j0:Nat→ByteArray→Int→Bool→Int→Int→List (List Int)→Option (Int × Int × (List (List Int)) × Int)
  |0,_,_,_,_,_,_=>none
  |k+1,a,b,c,d,e,g=>if c=true then(some (0,0,([]:List (List Int)),1))else((least_clone.f k d e g).bind fun bt172=>(least_Add.l0 k a b bt172.2.2 (bt172.2.2.length:Int) 0 bt172.1 bt172.2.1))
def least_Add.l0:Nat→ByteArray→Int→List (List Int)→Int→Int→Int→Int→Option (Int × Int × (List (List Int)) × Int)
  |0,_,_,_,_,_,_,_=>none
  |k+1,a,b,c,d,e,g,h=>if e<d then(if 0≤e then((hash_Row.f g e).bind fun t178=>((hash_Cell.f k t178 a ((rd_L9 c e).length:Int)).bind fun t179=>(if 0≤t179 then(if t179<((rd_L9 c e).length:Int)then(least_Add.l0 k a b (c.set (e:Int).toNat ((rd_L9 c e).set (t179:Int).toNat (mn (wrap64 ((rd (rd_L9 c e) t179)+b)) h))) d (wrap64 (e+1)) g h)else(none))else(none))))else(none))else(some (g,h,c,0))
end
def least_Add.f (k:Nat)(a0_0 a0_1:Int)(l0_2:List (List Int))(a1:ByteArray)(a2:Int):Option (Int × Int × (List (List Int)) × Int):=(least_Right.f k a0_0 a0_1 l0_2).bind fun t171=>(if t171=true then(if a2<0 then(least_Add.j0 k a1 a2 true a0_0 a0_1 l0_2)else(least_Add.j0 k a1 a2 (decide (a2>1099511627776)) a0_0 a0_1 l0_2))else(least_Add.j0 k a1 a2 true a0_0 a0_1 l0_2))
theorem least_Add.mono_l:∀k,(∀y0 y1 y2 y3 y4 y5,LeO (least_Add.j0 k y0 y1 y2 y3 y4 y5) (least_Add.j0 (k+1) y0 y1 y2 y3 y4 y5))∧(∀y0 y1 y2 y3 y4 y5 y6,LeO (least_Add.l0 k y0 y1 y2 y3 y4 y5 y6) (least_Add.l0 (k+1) y0 y1 y2 y3 y4 y5 y6))
  |0=>⟨fun _ _ _ _ _ _ r h=>by simp[least_Add.j0]at h,fun _ _ _ _ _ _ _ r h=>by simp[least_Add.l0]at h⟩
  |k+1=>by
    obtain⟨ih0,ih1⟩:=least_Add.mono_l k
    refine⟨?_,?_⟩
    · intro y0 y1 y2 y3 y4 y5
      unfold least_Add.j0
      repeat' with_reducible first|exact least_clone.mono .. |exact ih1 .. |exact LeO.refl _|exact LeO.none _|refine LeO.ite ?_ ?_|refine LeO.bind ?_ (fun _=>?_)
    · intro y0 y1 y2 y3 y4 y5 y6
      unfold least_Add.l0
      repeat' with_reducible first|exact hash_Cell.mono .. |exact ih1 .. |exact LeO.refl _|exact LeO.none _|refine LeO.ite ?_ ?_|refine LeO.bind ?_ (fun _=>?_)
theorem least_Add.mono:∀a0 a1 a2 a3 a4 k,LeO (least_Add.f k a0 a1 a2 a3 a4) (least_Add.f (k+1) a0 a1 a2 a3 a4):=by
  intro a0 a1 a2 a3 a4 k
  obtain⟨ih0,ih1⟩:=least_Add.mono_l k
  unfold least_Add.f
  repeat' with_reducible first|exact ih0 .. |exact least_Right.mono .. |exact LeO.refl _|exact LeO.none _|refine LeO.ite ?_ ?_|refine LeO.bind ?_ (fun _=>?_)
theorem least_Add.calls (k:Nat)(a0_0 a0_1:Int)(A0_2:Option Addr)(c0_2:Nat)(l0_2:List (List Int))(a1:ByteArray)(a2 r1 r2:Int)(r3:List (List Int))(r4:Int)(w:World)(hr0_2:Kd.C (Kd.slice 3 (Kd.int .i64)) w A0_2 l0_2.length l0_2)(hc0_2:l0_2.length≤c0_2)(h:least_Add.f k a0_0 a0_1 l0_2 a1 a2=some (r1,r2,r3,r4)):
    Calls Try.prog 58 #[.agg #[.int .u64 a0_0,.int .i64 a0_1,.slice A0_2 l0_2.length c0_2],.string a1,.int .i64 a2] w fun e w'=>∃v2_:Value,e=.returned (.tuple #[.agg #[.int .u64 r1,.int .i64 r2,v2_],.int .i64 r4])∧Kd.S (Kd.slice 3 (Kd.int .i64)) 57 w' w.heap.size (fun _=>True) v2_ r3∧Below w.heap.size w w':=by
 have hu_:=Try.underlying26;have aY:=mk_ hr0_2;have aZ:=mk_ hc0_2;clear hr0_2 hc0_2;have HB:=mk_ (Below.refl w.heap.size w);have H:=h;clear h;unfold least_Add.f at H;have HC4:=mk_ H;clear H
 go_enter Try.func58,Try.ntmps58
 go_upto_region 1 with(first|(refine gq_ 3 ?_;refine bx_ 3 #[.int .u64 a0_0,.int .i64 a0_1,.slice A0_2 l0_2.length c0_2] 26 ?_;intro aD hg w5 hbox hb;have aA:=mk_ (hbox);have dJ:=gx_ hg HB;have dK:=gx_ hg HB;replace HB:=bs_ HB hb;clear hb hbox hg)|(refine gq_ 6 ?_;refine bx_ 6 #[.int .u64 0,.int .i64 0,.slice none 0 0] 26 ?_;intro aK hg w6 hbox hb;have aC:=mk_ (hbox);have dL:=gx_ hg HB;have dM:=gx_ hg HB;have aU:=nx_ hg aA;have:=aU.out;have aM:=ny_ hg aA;have:=aM.out;replace aA:=bb_ aA hb;replace HB:=bs_ HB hb;clear hb hbox hg))
 (try simp only[Act.put,sa_,sb_,sc_])
 go_cut [21] (fun cD wc=>∃(kq:Nat)(bB:Bool),cD=.bool bB∧Aside0 (least_Add.j0 kq a1 a2 bB a0_0 a0_1 l0_2=some (r1,r2,r3,r4))∧Aside0 (kq≤k)∧Aside0 (wc.heap[aD]? =some (.cells #[.int .u64 a0_0,.int .i64 a0_1,(.slice A0_2 l0_2.length c0_2)] 26 (0,0)))∧Aside0 (wc.heap[aK]? =some (.cells #[.int .u64 0,.int .i64 0,(.slice none 0 0)] 26 (0,0)))∧Aside0 (Below w.heap.size w wc))
 case first=>
  have H:=HC4.out;clear HC4;replace H:=bi_ H;obtain⟨bA,A7,H⟩:=H
  by_cases c8:bA=true
  ·subst c8
   rw[if_pos rfl]at H
   rcases ic_ H with⟨aQ,h_⟩|⟨aQ,h_⟩
   ·clear H;have H:=h_;clear h_
    (first|rw[aQ]|(simp only[i64_w,i32_w];rw[aQ])|skip)
    have H':=mk_ H;clear H;have:=cz3_ aA;have:=fz3_ aA
    go_wp2_with (first|(refine gk_ 42 ?_;refine gd_ (some 12) Try.func42 (least_Right.calls k a0_0 a0_1 _ _ l0_2 true _ ?side1 ?side2 A7.out) ?_;(case side1=>exact ck_ (Kd.C_below aY.out HB.out));(case side2=>exact aZ.out);intro dP hb;replace aA:=bb_ aA hb;replace aC:=bb_ aC hb;replace HB:=bs_ HB hb;(try clear hb)))
    go_meet
    case rel=>exact⟨_,(true),eq_,H',⟨by first|omega|exact Nat.le_refl _⟩,⟨bk_ aA⟩,⟨bk_ aC⟩,⟨bl_ HB⟩⟩
   ·clear H;have H:=h_;clear h_
    (first|rw[aQ]|(simp only[i64_w,i32_w];rw[aQ])|skip)
    have H':=mk_ H;clear H;have:=cz3_ aA;have:=fz3_ aA
    go_wp2_with (first|(refine gk_ 42 ?_;refine gd_ (some 12) Try.func42 (least_Right.calls k a0_0 a0_1 _ _ l0_2 true _ ?side1 ?side2 A7.out) ?_;(case side1=>exact ck_ (Kd.C_below aY.out HB.out));(case side2=>exact aZ.out);intro dS hb;replace aA:=bb_ aA hb;replace aC:=bb_ aC hb;replace HB:=bs_ HB hb;(try clear hb)))
    go_meet
    case rel=>exact⟨_,(decide (a2>1099511627776)),eq_,H',⟨by first|omega|exact Nat.le_refl _⟩,⟨bk_ aA⟩,⟨bk_ aC⟩,⟨bl_ HB⟩⟩
  ·replace c8:=Bool.eq_false_iff.mpr c8;subst c8
   rw[if_neg (show¬(false=true)by decide)]at H;have H':=mk_ H;clear H;have:=cz3_ aA;have:=fz3_ aA
   go_wp2_with (first|(refine gk_ 42 ?_;refine gd_ (some 12) Try.func42 (least_Right.calls k a0_0 a0_1 _ _ l0_2 false _ ?side1 ?side2 A7.out) ?_;(case side1=>exact ck_ (Kd.C_below aY.out HB.out));(case side2=>exact aZ.out);intro dV hb;replace aA:=bb_ aA hb;replace aC:=bb_ aC hb;replace HB:=bs_ HB hb;(try clear hb)))
   go_meet
   case rel=>exact⟨_,(true),eq_,H',⟨by first|omega|exact Nat.le_refl _⟩,⟨bk_ aA⟩,⟨bk_ aC⟩,⟨bl_ HB⟩⟩
 case rest=>
  clear HC4;obtain⟨kq,bB,rfl,HA,HJ3,aA,aC,HB⟩:=hcut
  cases kq with
  |zero=>exact absurd HA.out (by simp[least_Add.j0])
  |succ aV=>
   have H:=HA.out;clear HA;simp only[least_Add.j0]at H
   by_cases aX:bB=true
   ·subst aX
    rw[if_pos rfl]at H;simp only[Option.some.injEq,Prod.mk.injEq]at H;obtain⟨rfl,rfl,rfl,rfl⟩:=H;have:=cz3_ aC;have:=fz3_ aC
    go_wp2
    refine bodyPost_ret (results_ct rfl _ _ aK 26 #[.int .u64 0,.int .i64 0,.slice none 0 0] (0,0) _ rfl (pt_ aC) Try.underlying26 rfl (by kernel_rfl)) rfl ?_;exact⟨_,er_,by first|(with_reducible first|exact Kd.N_nil _ _ _ _ _|exact Kd.V_nil _ _ _ _ _|exact Kd.S_nil _ _ _ _ _)|exact Kd.Q_nil _ _ _ _ _|exact Kd.R_nil _ _ _ _ _,bl_ HB⟩
   ·replace aX:=Bool.eq_false_iff.mpr aX;subst aX
    rw[if_neg (show¬(false=true)by decide)]at H;replace H:=bi_ H;obtain⟨⟨aJ,aI,aG⟩,cP,H⟩:=H;dsimp only at H;have H':=mk_ H;clear H;have:=cz3_ aA;have:=fz3_ aA
    go_wp2_with (first|(refine gk_ 75 ?_;refine gc_ (some 24) Try.func75 (least_clone.calls aV a0_0 a0_1 _ _ l0_2 aJ aI aG _ ?side1 ?side2 cP.out) ?_;(case side1=>exact ck_ (Kd.C_below aY.out HB.out));(case side2=>exact aZ.out);rintro e bF ⟨fA,rfl,ho0,hb⟩;refine⟨_,rfl,?_⟩;have cB:=mk_ (Kd.S_lower ho0 (below_size (bl_ HB)));replace aA:=bb_ aA hb;replace aC:=bb_ aC hb;replace HB:=bs_ HB hb;(try clear hb);(try clear ho0);have:=cz3_ aA;have:=fz3_ aA;obtain⟨aW,aP,eo27⟩:=Kd.S_slice cB.out;subst eo27))
    go_loopg [28] aV (fun kq dC w'=>∃(aE:Int)(cur:List (List Int)),dC=.int .i64 aE∧Aside0 (cur.length=aG.length)∧Aside0 (least_Add.l0 kq a1 a2 cur (aG.length:Int) aE aJ aI=some (r1,r2,r3,r4))∧Aside0 (kq≤aV)∧Aside0 (Kd.S (Kd.slice 3 (Kd.int .i64)) 57 w' w.heap.size (fun _=>True) (.slice aW aG.length aP) cur)∧Aside0 (w'.heap[aD]? =some (.cells #[.int .u64 aJ,.int .i64 aI,(.slice aW aG.length aP)] 26 (0,0)))∧Aside0 (w'.heap[aK]? =some (.cells #[.int .u64 0,.int .i64 0,(.slice none 0 0)] 26 (0,0)))∧Aside0 (Below w.heap.size w w'))
    case atStart=>exact⟨(0),aG,eq_,⟨rfl⟩,H',⟨Nat.le_refl _⟩,⟨by(with_reducible repeat(first|apply Kd.S_alloc|apply Kd.S_drewN|apply Kd.S_drew));exact Kd.S_mono (sf_ aD (Kd.S_types cB.out aA.out (by decide)) (fun _ hk=>hk.2)) (fun _ hk=>trivial)⟩,⟨pt_ aA⟩,⟨fb_⟩,⟨bl_ HB⟩⟩
    case round=>
     clear H';(try clear aX);obtain⟨aE,cur,rfl,HLEN,HA,HK2,bC,aA,aC,HB⟩:=hrel
     cases gk with
     |zero=>exact absurd HA.out (by simp[least_Add.l0])
     |succ k2=>
      have H:=HA.out;clear HA;simp only[least_Add.l0]at H
      by_cases aN:aE<(aG.length:Int)
      ·rw[if_pos aN]at H;have dD:=decide_eq_true aN;replace H:=ip_ H;obtain⟨aT,H⟩:=H;have fE:=decide_eq_true aT;replace H:=Option.bind_eq_some_iff.mp H;obtain⟨cC,AR0,H⟩:=H;have AR:=mk_ AR0;clear AR0;replace H:=Option.bind_eq_some_iff.mp H;obtain⟨aH,AC0,H⟩:=H;have AC:=mk_ AC0;clear AC0;replace H:=ip_ H;obtain⟨bD,H⟩:=H;replace H:=ip_ H;obtain⟨bE,H⟩:=H;have H':=mk_ H;clear H;(try(obtain⟨Az_,cz_,ez_,_,_⟩:=Kd.S_reads bC.out;subst ez_));obtain⟨ad,A1,c1,e1,hx1,hl1,hi1⟩:=at_L9 (Kd.S_reads' bC.out).2.2 aE aT (by rw[HLEN.out];exact aN)
       cases e1;have HX1:=mk_ hx1;have hcz0:wr.cell? ⟨aD,0,none⟩=some (.int .u64 aJ):=bc_ aA 0;clear hl1 hi1;have P0:=mk_ aT;have P1:=mk_ aN;have P2:=mk_ bD;have P3:=mk_ bE;replace aT:=eq_true aT;replace aN:=eq_true aN;clear bD bE
       go_wp2_with fail
       refine(hash_Row.calls aJ aE cC _ AR.out).mono ?_;rintro e w2 ⟨rfl,hb⟩;have dE:=mk_ (Kd.S_below bC.out hb);have dF:=mk_ (blk_below aA.out hb);have BL2:=mk_ (blk_below aC.out hb);have HB2:=mk_ (below_step HB.out hb);have HX2:=mk_ ((hb.cell (World.block_lt_of_cell? wr _ HX1.out)).trans HX1.out);clear hb hcz0 hx1
       go_wp2_with fail
       refine(hash_Cell.calls k2 cC a1 _ aH _ AC.out).mono ?_;rintro e w3 ⟨rfl,⟨nd,rfl⟩⟩
       go_wp2_with fail
       have dG:=mk_ (Kd.S_drew (Kd.S_drewN dE.out nd));have bG:=mk_ (blk_drew (blk_drewN dF.out nd));have BL4:=mk_ (blk_drew (blk_drewN BL2.out nd));have HB4:=mk_ (below_drew1 (pw_below_drewN HB2.out nd));have HX4:Aside0 ((w2.drewN nd).drew.cell? (ad.add aE.toNat)=some (.slice A1 (rd_L9 cur aE).length c1)):=⟨HX2.out⟩;refine wp_region_still_tail 12 (by kernel_rfl) (by kernel_rfl) ?_
       change wpStill _ _ (w2.drewN nd).drew (fun a'=>wpList _ _ _ _ a' (w2.drewN nd).drew) _ _
       generalize (w2.drewN nd).drew=w4 at *;obtain⟨oki,cc,hcl,hM,hcc,hoki,hback⟩:=Kd.S_borrow dG.out [] aE P0.out (by first|exact P1.out|(rw[HLEN.out];exact P1.out));obtain⟨v4,rfl,hR⟩:=hM;have hv:=hcc 0 _ rfl;rw[Nat.add_zero,show((Kd.slice 3 (Kd.int .i64))).sz=1 from rfl,Nat.mul_one]at hv;replace hv:=Option.some.inj (hv.symm.trans HX4.out);subst hv;clear hcc hcl;have hR2:(Kd.int .i64).R 3 w4 w.heap.size oki (.slice A1 (rd_L9 cur aE).length c1) (rd_L9 cur aE):=hR;clear hR;obtain⟨g1,cap1,eg,hg1,hg2,cells,hcells⟩:=Kd.R_form hR2 (by have:=P2.out;have:=P3.out;omega)
       cases eg;have hfr:=blk_frozen hcells aH.toNat;obtain⟨A5,c5,e5,hl5,hC5⟩:=Kd.R_reads hR2
       cases e5;obtain⟨fF,e5,hx5⟩:=Kd.at_int hC5 aH P2.out P3.out
       cases e5;have HBACK:=mk_ (@hback);clear hback;have HRR:=mk_ hR2;have HCE:=mk_ hcells;have HG1:=mk_ hg1;clear hR2 hC5 hl5 hoki hg2 hcells hg1;rw[Addr.add_lit,Nat.zero_add]at hx5;have hz1:w4.cell? ⟨aD,1,none⟩=some (.int .i64 aI):=bc_ bG 1;have q0:=eq_true P2.out;have q1:=eq_true P3.out;have d0:decide (0≤aH)=true:=decide_eq_true P2.out;have d1:decide (aH<((rd_L9 cur aE).length:Int))=true:=decide_eq_true P3.out;simp only[List.take_succ_cons,List.take_zero,List.drop_succ_cons,List.drop_zero]
       repeat still_step
       try refine wpStill_nil ?_
       have hmn:(if aI<IntKind.i64.wrap ((rd (rd_L9 cur aE) aH)+a2)then aI else IntKind.i64.wrap ((rd (rd_L9 cur aE) aH)+a2))=mn (wrap64 ((rd (rd_L9 cur aE) aH)+a2)) aI:=by rw[i64_w];rfl
       rw[hmn];clear hmn;generalize mn (wrap64 ((rd (rd_L9 cur aE) aH)+a2)) aI=nv at *;have RP:=Kd.R_put HRR.out aH nv;have HS5:=mk_ (show Kd.S (Kd.slice 3 (Kd.int .i64)) 57 (w4.setCell ⟨g1,(aH:Int).toNat,none⟩ (.int .i64 nv)) w.heap.size (fun _=>True) (.slice (some ad) aG.length aP) (cur.set (aE:Int).toNat ((rd_L9 cur aE).set (aH:Int).toNat nv))from HBACK.out RP.2 (fun k_ dH=>HRR.out.1 k_ (by rw[←dH];rfl)) ⟨_,rfl,RP.1⟩);have dI:Aside0 ((w4.setCell ⟨g1,(aH:Int).toNat,none⟩ (.int .i64 nv)).heap[aD]? =some (.cells #[.int .u64 aJ,.int .i64 aI,(.slice (some ad) aG.length aP)] 26 (0,0))):=⟨blk_far bG.out (blk_ne bG.out HCE.out (by decide)) _⟩;have BL5:Aside0 ((w4.setCell ⟨g1,(aH:Int).toNat,none⟩ (.int .i64 nv)).heap[aK]? =some (.cells #[.int .u64 0,.int .i64 0,(.slice none 0 0)] 26 (0,0))):=⟨blk_far BL4.out (blk_ne BL4.out HCE.out (by decide)) _⟩;have HB5:Aside0 (Below w.heap.size w (w4.setCell ⟨g1,(aH:Int).toNat,none⟩ (.int .i64 nv))):=⟨below_set HB4.out HG1.out⟩;clear RP
       go_wp2
       go_roundg k2
       case measure=>have:=HJ3.out;have:=HK2.out;omega
       case rel=>exact⟨(wrap64 (aE+1)),_,eq_,⟨by rw[List.length_set];exact HLEN.out⟩,H',⟨by have:=HJ3.out;have:=HK2.out;omega⟩,HS5,dI,BL5,HB5⟩
      ·rw[if_neg aN]at H;have dD:=decide_eq_false aN;clear aN;simp only[Option.some.injEq,Prod.mk.injEq]at H;obtain⟨rfl,rfl,rfl,rfl⟩:=H;have:=cz3_ aA;have:=fz3_ aA;have:=cz3_ aC;have:=fz3_ aC
       go_wp2
       refine bodyPost_ret (results_ct rfl _ _ aK 26 #[.int .u64 aJ,.int .i64 aI,.slice aW aG.length aP] (0,0) _ rfl (pt_ aC) Try.underlying26 rfl (by kernel_rfl)) rfl ?_;exact⟨_,er_,by(with_reducible repeat(first|apply Kd.S_alloc|apply Kd.S_drewN|apply Kd.S_drew));exact Kd.S_mono (sf_ aK (Kd.S_types bC.out aC.out (by decide)) (fun _ hk=>hk.2)) (fun _ hk=>trivial),bl_ HB⟩
end Go.Proofs.Ytljmjjeghebdpaa.PElasticTurns
