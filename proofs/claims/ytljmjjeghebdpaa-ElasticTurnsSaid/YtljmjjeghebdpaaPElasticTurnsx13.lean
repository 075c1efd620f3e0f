/- Functions, each as a plain function, with the proof that a call comes to its answer. Condition of each: the arguments read as the data that it names, and the plain function has an answer. -/
import Derived.Test.YtljmjjeghebdpaaPElasticTurnsx0
import Derived.Test.YtljmjjeghebdpaaShort
import Derived.Lib.SliceRun
import Derived.Test.YtljmjjeghebdpaaPressMore
namespace Go.Proofs.Ytljmjjeghebdpaa.PElasticTurns
open Go.RowKit Go.Proofs.YtljmjjeghebdpaaW.PrintWords Go.Proofs.YtljmjjeghebdpaaW.PrintLast Go.Proofs.YtljmjjeghebdpaaW.PrintMore Go.Proofs.Ytljmjjeghebdpaa.Short Go.Proofs.Ytljmjjeghebdpaa.Press Go.Proofs.Ytljmjjeghebdpaa.PressMore
set_option maxHeartbeats 80000000
set_option maxRecDepth 100000
attribute [local go_sem] max2_int min2_int max_two min_two max_three min_three max_four min_four
set_option linter.unusedVariables false
set_option linter.unusedSimpArgs false
mutual
def rillmeterref11_SameRows.l0:Nat→List (List Int)→List (List Int)→Int→Option (Bool)
  |0,_,_,_=>none
  |k+1,a,b,c=>if c<(a.length:Int)then(if 0≤c then(if c<(b.length:Int)then(if((rd_L9 a c).length:Int)=((rd_L9 b c).length:Int)then(rillmeterref11_SameRows.l1 k a b c 0)else(some false))else(none))else(none))else(some true)
def rillmeterref11_SameRows.l1:Nat→List (List Int)→List (List Int)→Int→Int→Option (Bool)
  |0,_,_,_,_=>none
  |k+1,a,b,c,d=>if 0≤c then(if c<(a.length:Int)then(if d<((rd_L9 a c).length:Int)then(if 0≤d then(if c<(b.length:Int)then(if d<((rd_L9 b c).length:Int)then(if(rd (rd_L9 a c) d)=(rd (rd_L9 b c) d)then(rillmeterref11_SameRows.l1 k a b c (wrap64 (d+1)))else(some false))else(none))else(none))else(none))else(rillmeterref11_SameRows.l0 k a b (wrap64 (c+1))))else(none))else(none)
end
def rillmeterref11_SameRows.f (k:Nat)(l0 l1:List (List Int)):Option (Bool):=if(l0.length:Int)=(l1.length:Int)then(rillmeterref11_SameRows.l0 k l0 l1 0)else(some false)
theorem rillmeterref11_SameRows.mono_l:∀k,(∀y0 y1 y2,LeO (rillmeterref11_SameRows.l0 k y0 y1 y2) (rillmeterref11_SameRows.l0 (k+1) y0 y1 y2))∧(∀y0 y1 y2 y3,LeO (rillmeterref11_SameRows.l1 k y0 y1 y2 y3) (rillmeterref11_SameRows.l1 (k+1) y0 y1 y2 y3))
  |0=>⟨fun _ _ _ r h=>by simp[rillmeterref11_SameRows.l0]at h,fun _ _ _ _ r h=>by simp[rillmeterref11_SameRows.l1]at h⟩
  |k+1=>by
    obtain⟨ih0,ih1⟩:=rillmeterref11_SameRows.mono_l k
    refine⟨?_,?_⟩<;>intros
    all_goals first|unfold rillmeterref11_SameRows.l0|unfold rillmeterref11_SameRows.l1
    all_goals repeat' with_reducible first|exact ih0 .. |exact ih1 .. |exact LeO.refl _|exact LeO.none _|refine LeO.ite ?_ ?_|refine LeO.bind ?_ (fun _=>?_)
theorem rillmeterref11_SameRows.mono:∀a0 a1 k,LeO (rillmeterref11_SameRows.f k a0 a1) (rillmeterref11_SameRows.f (k+1) a0 a1):=by
  intro a0 a1 k
  obtain⟨ih0,ih1⟩:=rillmeterref11_SameRows.mono_l k
  unfold rillmeterref11_SameRows.f
  repeat' with_reducible first|exact ih0 .. |exact ih1 .. |exact LeO.refl _|exact LeO.none _|refine LeO.ite ?_ ?_|refine LeO.bind ?_ (fun _=>?_)
theorem rillmeterref11_SameRows.calls (k:Nat)(A0:Option Addr)(c0:Nat)(l0:List (List Int))(A1:Option Addr)(c1:Nat)(l1:List (List Int))(r:Bool)(w:World)(hr0:Kd.C (Kd.slice 3 (Kd.int .i64)) w A0 l0.length l0)(hc0:l0.length≤c0)(hr1:Kd.C (Kd.slice 3 (Kd.int .i64)) w A1 l1.length l1)(hc1:l1.length≤c1)(h:rillmeterref11_SameRows.f k l0 l1=some r):
    Calls Try.prog 72 #[.slice A0 l0.length c0,.slice A1 l1.length c1] w fun e w'=>e=.returned (.bool r)∧Drawn0 w w':=by
 have HR0:=mk_ hr0;have HC0:=mk_ hc0;clear hr0 hc0;have HR1:=mk_ hr1;have HC1:=mk_ hc1;clear hr1 hc1;have H:=h;clear h;unfold rillmeterref11_SameRows.f at H
 by_cases c3:(l0.length:Int)=(l1.length:Int)
 ·rw[if_pos c3]at H;have bD:=beq_iff_eq.mpr c3;have bE:=bne_eq_false_iff_eq.mpr c3
  have bF:(l0.length==l1.length)=true:=by first|simpa using c3|(simp at c3 ⊢;omega)
  clear c3;have H':=mk_ H;clear H
  go_enter Try.func72,Try.ntmps72
  go_wp2
  repeat(go_quiet (fail);try go_wp2)
  go_loopg [5] k (fun kq v5 w'=>∃(aA:Int),v5=.int .i64 aA∧Aside0 (rillmeterref11_SameRows.l0 kq l0 l1 aA=some r)∧Aside0 (kq≤k)∧Drawn0 w w')
  case atStart=>exact⟨(0),eq_,H',⟨Nat.le_refl _⟩,by repeat(first|exact Drawn0.refl _|apply Drawn0.step)⟩
  case round=>
   clear H';(try clear c1);(try clear c3);(try clear bD);(try clear bE);(try clear bF);obtain⟨aA,rfl,HA,HK1,⟨m1,rfl⟩⟩:=hrel
   cases gk with
   |zero=>exact absurd HA.out (by simp[rillmeterref11_SameRows.l0])
   |succ k1=>
    have H:=HA.out;clear HA;simp only[rillmeterref11_SameRows.l0]at H
    rcases ic_ H with⟨bM,h_⟩|⟨bM,h_⟩
    ·clear H;have H:=h_;clear h_;replace H:=it_ H;obtain⟨bU,H⟩:=H;replace H:=it_ H;obtain⟨bV,H⟩:=H
     by_cases c7:((rd_L9 l0 aA).length:Int)=((rd_L9 l1 aA).length:Int)
     ·rw[if_pos c7]at H;have bN:=beq_iff_eq.mpr c7;have bO:=bne_eq_false_iff_eq.mpr c7
      have bP:((rd_L9 l0 aA).length==(rd_L9 l1 aA).length)=true:=by first|simpa using c7|(simp at c7 ⊢;omega)
      clear c7;have H':=mk_ H;clear H;obtain⟨aE,aF,aS,A577_0,c577_0,e577,bQ,aU,hi577_0⟩:=aq_ (at_L9 HR0.out aA)
      cases e577;have bW:=mk_ hi577_0;have bX:=mk_ aU;clear hi577_0 aU;obtain⟨aG,aH,bG,A578_0,c578_0,e578,bR,aV,hi578_0⟩:=aq_ (at_L9 HR1.out aA)
      cases e578;have bY:=mk_ hi578_0;have bZ:=mk_ aV;clear hi578_0 aV
      go_wp2
      repeat(go_quiet (fail);try go_wp2)
      go_loopg [6] k1 (fun kq v6 w'=>∃(aB:Int),v6=.int .i64 aB∧Aside0 (rillmeterref11_SameRows.l1 kq l0 l1 aA aB=some r)∧Aside0 (kq≤k1)∧Drawn0 w w')
      case atStart=>exact⟨(0),eq_,H',⟨Nat.le_refl _⟩,by repeat(first|exact Drawn0.refl _|apply Drawn0.step)⟩
      case round=>
       clear H';(try clear c1);(try clear c3);(try clear bD);(try clear bE);(try clear bF);(try clear bM);(try clear bU);(try clear bV);(try clear c7);(try clear bN);(try clear bO);(try clear bP);(try clear bQ);(try clear bR);(try clear aE);(try clear aG);(try clear aF);(try clear aH);obtain⟨aB,rfl,HA,HK2,⟨m2,rfl⟩⟩:=hrel
       cases gk with
       |zero=>exact absurd HA.out (by simp[rillmeterref11_SameRows.l1])
       |succ k2=>
        have H:=HA.out;clear HA;simp only[rillmeterref11_SameRows.l1]at H;replace H:=it_ H;obtain⟨cK,H⟩:=H;replace H:=it_ H;obtain⟨cL,H⟩:=H
        rcases ic_ H with⟨cA,h_⟩|⟨cA,h_⟩
        ·clear H;have H:=h_;clear h_;replace H:=it_ H;obtain⟨cM,H⟩:=H;replace H:=it_ H;obtain⟨cN,H⟩:=H;replace H:=it_ H;obtain⟨cO,H⟩:=H
         by_cases aJ:(rd (rd_L9 l0 aA) aB)=(rd (rd_L9 l1 aA) aB)
         ·rw[if_pos aJ]at H;have cB:=beq_iff_eq.mpr aJ;have cC:=bne_eq_false_iff_eq.mpr aJ;clear aJ;have H':=mk_ H;clear H;obtain⟨aC,aD,aW,A579_0,c579_0,e579,bC,aI,hi579_0⟩:=aq_ (at_L9 HR0.out aA);obtain rfl:aS=aW:=(by injection e579);have bS:=mk_ hi579_0;have bT:=mk_ aI;clear hi579_0 aI;obtain⟨aK,aL,bH,A580_0,c580_0,e580,bI,aX,hi580_0⟩:=aq_ (at_L9 HR0.out aA);obtain rfl:aS=bH:=(by injection e580);have bJ:=mk_ hi580_0;have cD:=mk_ aX;clear hi580_0 aX;have ea_:=Option.some.inj (bC.symm.trans bI)
          injection ea_ with ea_ en_ ec_
          subst ea_;subst ec_;clear en_;obtain⟨aM,aN,cE,e581,cF⟩:=aq_ (Kd.at_int bJ.out aB)
          cases e581;have aO:0≤(aA:Int):=od_;have aP:aA<(l1.length:Int):=od_;obtain⟨bK,A582_0,c582_0,e582,cG,aY,hi582_0⟩:=at_L9 HR1.out aA aO aP;obtain rfl:bG=bK:=(by injection e582);have bL:=mk_ hi582_0;have cH:=mk_ aY;clear hi582_0 aY;replace aO:=eq_true aO;replace aP:=eq_true aP;obtain⟨aQ,aR,cI,e583,cJ⟩:=aq_ (Kd.at_int bL.out aB)
          cases e583
          go_wp2
          repeat(go_quiet (fail);try go_wp2)
          go_roundg k2
          case measure=>have:=HK1.out;have:=HK2.out;omega
          case rel=>exact⟨(wrap64 (aB+1)),eq_,H',⟨by have:=HK1.out;have:=HK2.out;omega⟩,by repeat(first|exact Drawn0.refl _|apply Drawn0.step)⟩
         ·rw[if_neg aJ]at H;have cB:=beq_eq_false_iff_ne.mpr aJ;have cC:=bne_iff_ne.mpr aJ;obtain rfl:=Option.some.inj H;obtain⟨aC,aD,aW,A579_0,c579_0,e579,bC,aI,hi579_0⟩:=aq_ (at_L9 HR0.out aA);obtain rfl:aS=aW:=(by injection e579);have bS:=mk_ hi579_0;have bT:=mk_ aI;clear hi579_0 aI;obtain⟨aK,aL,bH,A580_0,c580_0,e580,bI,aX,hi580_0⟩:=aq_ (at_L9 HR0.out aA);obtain rfl:aS=bH:=(by injection e580);have bJ:=mk_ hi580_0;have cD:=mk_ aX;clear hi580_0 aX;have ea_:=Option.some.inj (bC.symm.trans bI)
          injection ea_ with ea_ en_ ec_
          subst ea_;subst ec_;clear en_;obtain⟨aM,aN,cE,e581,cF⟩:=aq_ (Kd.at_int bJ.out aB)
          cases e581;have aO:0≤(aA:Int):=od_;have aP:aA<(l1.length:Int):=od_;obtain⟨bK,A582_0,c582_0,e582,cG,aY,hi582_0⟩:=at_L9 HR1.out aA aO aP;obtain rfl:bG=bK:=(by injection e582);have bL:=mk_ hi582_0;have cH:=mk_ aY;clear hi582_0 aY;replace aO:=eq_true aO;replace aP:=eq_true aP;obtain⟨aQ,aR,cI,e583,cJ⟩:=aq_ (Kd.at_int bL.out aB)
          cases e583
          go_wp2
          repeat(go_quiet (fail);try go_wp2)
          go_ret;exact⟨by first|rfl|(simp;done)|(simp[*];done),by repeat(first|exact Drawn0.refl _|apply Drawn0.step)⟩
        ·clear H;have H:=h_;clear h_;have H':=mk_ H;clear H;obtain⟨aC,aD,aW,A579_0,c579_0,e579,bC,aI,hi579_0⟩:=aq_ (at_L9 HR0.out aA);obtain rfl:aS=aW:=(by injection e579);have bS:=mk_ hi579_0;have bT:=mk_ aI;clear hi579_0 aI
         go_wp2
         repeat(go_quiet (fail);try go_wp2)
         go_roundg k2
         case measure=>have:=HK1.out;have:=HK2.out;omega
         case rel=>exact⟨(wrap64 (aA+1)),eq_,H',⟨by have:=HK1.out;have:=HK2.out;omega⟩,by repeat(first|exact Drawn0.refl _|apply Drawn0.step)⟩
     ·rw[if_neg c7]at H;have bN:=beq_eq_false_iff_ne.mpr c7;have bO:=bne_iff_ne.mpr c7
      have bP:((rd_L9 l0 aA).length==(rd_L9 l1 aA).length)=false:=by first|simpa using c7|(simp at c7 ⊢;omega)
      obtain rfl:=Option.some.inj H;obtain⟨aE,aF,aS,A577_0,c577_0,e577,bQ,aU,hi577_0⟩:=aq_ (at_L9 HR0.out aA)
      cases e577;have bW:=mk_ hi577_0;have bX:=mk_ aU;clear hi577_0 aU;obtain⟨aG,aH,bG,A578_0,c578_0,e578,bR,aV,hi578_0⟩:=aq_ (at_L9 HR1.out aA)
      cases e578;have bY:=mk_ hi578_0;have bZ:=mk_ aV;clear hi578_0 aV
      go_wp2
      repeat(go_quiet (fail);try go_wp2)
      go_ret;exact⟨by first|rfl|(simp;done)|(simp[*];done),by repeat(first|exact Drawn0.refl _|apply Drawn0.step)⟩
    ·clear H;have H:=h_;clear h_;obtain rfl:=Option.some.inj H
     go_wp2
     repeat(go_quiet (fail);try go_wp2)
     go_ret;exact⟨by first|rfl|(simp;done)|(simp[*];done),by repeat(first|exact Drawn0.refl _|apply Drawn0.step)⟩
 ·rw[if_neg c3]at H;have bD:=beq_eq_false_iff_ne.mpr c3;have bE:=bne_iff_ne.mpr c3
  have bF:(l0.length==l1.length)=false:=by first|simpa using c3|(simp at c3 ⊢;omega)
  obtain rfl:=Option.some.inj H
  go_enter Try.func72,Try.ntmps72
  go_wp2
  repeat(go_quiet (fail);try go_wp2)
  go_ret;exact⟨by first|rfl|(simp;done)|(simp[*];done),by repeat(first|exact Drawn0.refl _|apply Drawn0.step)⟩
def rillmeterref11_Equal.f (k:Nat)(a0_0 a0_1:Int)(l0_2:List (List Int))(a1_0 a1_1:Int)(l1_2:List (List Int)):Option (Bool):=if a0_0=a1_0 then(if a0_1=a1_1 then((rillmeterref11_SameRows.f k l0_2 l1_2).bind fun t586=>(some t586))else(some false))else(some false)
theorem rillmeterref11_Equal.mono:∀a0 a1 a2 a3 a4 a5 k,LeO (rillmeterref11_Equal.f k a0 a1 a2 a3 a4 a5) (rillmeterref11_Equal.f (k+1) a0 a1 a2 a3 a4 a5):=by
  intro a0 a1 a2 a3 a4 a5 k
  unfold rillmeterref11_Equal.f
  repeat' with_reducible first|exact rillmeterref11_SameRows.mono .. |exact LeO.refl _|exact LeO.none _|refine LeO.ite ?_ ?_|refine LeO.bind ?_ (fun _=>?_)
theorem rillmeterref11_Equal.calls (k:Nat)(a0_0 a0_1:Int)(A0_2:Option Addr)(c0_2:Nat)(l0_2:List (List Int))(a1_0 a1_1:Int)(A1_2:Option Addr)(c1_2:Nat)(l1_2:List (List Int))(r:Bool)(w:World)(hr0_2:Kd.C (Kd.slice 3 (Kd.int .i64)) w A0_2 l0_2.length l0_2)(hc0_2:l0_2.length≤c0_2)(hr1_2:Kd.C (Kd.slice 3 (Kd.int .i64)) w A1_2 l1_2.length l1_2)(hc1_2:l1_2.length≤c1_2)(h:rillmeterref11_Equal.f k a0_0 a0_1 l0_2 a1_0 a1_1 l1_2=some r):
    Calls Try.prog 51 #[.agg #[.int .u64 a0_0,.int .i64 a0_1,.slice A0_2 l0_2.length c0_2],.agg #[.int .u64 a1_0,.int .i64 a1_1,.slice A1_2 l1_2.length c1_2]] w fun e w'=>e=.returned (.bool r)∧Below w.heap.size w w':=by
 have hu30:=Try.underlying30;have aO:=mk_ hr0_2;have aP:=mk_ hc0_2;clear hr0_2 hc0_2;have aQ:=mk_ hr1_2;have aR:=mk_ hc1_2;clear hr1_2 hc1_2;have HB:=mk_ (Below.refl w.heap.size w);have H:=h;clear h;unfold rillmeterref11_Equal.f at H
 by_cases c3:a0_0=a1_0
 ·rw[if_pos c3]at H;have aS:=beq_iff_eq.mpr c3;have aT:=bne_eq_false_iff_eq.mpr c3;clear c3
  by_cases c4:a0_1=a1_1
  ·rw[if_pos c4]at H;have aU:=beq_iff_eq.mpr c4;have aV:=bne_eq_false_iff_eq.mpr c4;clear c4;replace H:=bi_ H;obtain⟨aI,A5,H⟩:=H;obtain rfl:=Option.some.inj H
   go_enter Try.func51,Try.ntmps51
   go_wp2_with (first|(refine gq_ 2 ?_;refine bx_ 2 #[.int .u64 a0_0,.int .i64 a0_1,.slice A0_2 l0_2.length c0_2] 30 ?_;intro aC hg w6 hbox hb;have aA:=mk_ (hbox);have aK:=gx_ hg HB;have aL:=gx_ hg HB;replace HB:=bs_ HB hb;clear hb hbox hg)|(refine gq_ 3 ?_;refine bx_ 3 #[.int .u64 a1_0,.int .i64 a1_1,.slice A1_2 l1_2.length c1_2] 30 ?_;intro aD hg w7 hbox hb;have aB:=mk_ (hbox);have aM:=gx_ hg HB;have aN:=gx_ hg HB;have aG:=nx_ hg aA;have:=aG.out;have aH:=ny_ hg aA;have:=aH.out;replace aA:=bb_ aA hb;replace HB:=bs_ HB hb;clear hb hbox hg;have:=cz3_ aA;have:=fz3_ aA;have:=cz3_ aB;have:=fz3_ aB)|(go_at_call 72;(with_reducible refine(rillmeterref11_SameRows.calls k _ _ l0_2 _ _ l1_2 aI _ ?side1 ?side2 ?side3 ?side4 A5.out).mono ?_);(case side1=>exact ck_ (Kd.C_below aO.out HB.out));(case side2=>exact aP.out);(case side3=>exact ck_ (Kd.C_below aQ.out HB.out));(case side4=>exact aR.out);rintro e w' ⟨rfl,⟨nd,rfl⟩⟩))
   go_ret;exact⟨er_,bl_ HB⟩
  ·rw[if_neg c4]at H;have aU:=beq_eq_false_iff_ne.mpr c4;have aV:=bne_iff_ne.mpr c4;obtain rfl:=Option.some.inj H
   go_enter Try.func51,Try.ntmps51
   go_wp2_with (first|(refine gq_ 2 ?_;refine bx_ 2 #[.int .u64 a0_0,.int .i64 a0_1,.slice A0_2 l0_2.length c0_2] 30 ?_;intro aC hg bK hbox hb;have aA:=mk_ (hbox);have aK:=gx_ hg HB;have aL:=gx_ hg HB;replace HB:=bs_ HB hb;clear hb hbox hg)|(refine gq_ 3 ?_;refine bx_ 3 #[.int .u64 a1_0,.int .i64 a1_1,.slice A1_2 l1_2.length c1_2] 30 ?_;intro aD hg aE hbox hb;have aB:=mk_ (hbox);have aM:=gx_ hg HB;have aN:=gx_ hg HB;have aG:=nx_ hg aA;have:=aG.out;have aH:=ny_ hg aA;have:=aH.out;replace aA:=bb_ aA hb;replace HB:=bs_ HB hb;clear hb hbox hg;have:=cz3_ aA;have:=fz3_ aA;have:=cz3_ aB;have:=fz3_ aB))
   go_ret;exact⟨er_,bl_ HB⟩
 ·rw[if_neg c3]at H;have aS:=beq_eq_false_iff_ne.mpr c3;have aT:=bne_iff_ne.mpr c3;obtain rfl:=Option.some.inj H
  go_enter Try.func51,Try.ntmps51
  go_wp2_with (first|(refine gq_ 2 ?_;refine bx_ 2 #[.int .u64 a0_0,.int .i64 a0_1,.slice A0_2 l0_2.length c0_2] 30 ?_;intro aC hg bZ hbox hb;have aA:=mk_ (hbox);have aK:=gx_ hg HB;have aL:=gx_ hg HB;replace HB:=bs_ HB hb;clear hb hbox hg)|(refine gq_ 3 ?_;refine bx_ 3 #[.int .u64 a1_0,.int .i64 a1_1,.slice A1_2 l1_2.length c1_2] 30 ?_;intro aD hg aF hbox hb;have aB:=mk_ (hbox);have aM:=gx_ hg HB;have aN:=gx_ hg HB;have aG:=nx_ hg aA;have:=aG.out;have aH:=ny_ hg aA;have:=aH.out;replace aA:=bb_ aA hb;replace HB:=bs_ HB hb;clear hb hbox hg;have:=cz3_ aA;have:=fz3_ aA;have:=cz3_ aB;have:=fz3_ aB))
  go_ret;exact⟨er_,bl_ HB⟩
section
attribute [local go_sem high] eqA77
mutual
def rillmeterref15_Equal.j0:Nat→Bool→Int→Int→Int→List (S74)→Int→Int→List (List Int)→Int→Int→Int→List (S74)→Int→Int→List (List Int)→Option (Bool)
  |0,_,_,_,_,_,_,_,_,_,_,_,_,_,_,_=>none
  |k+1,a,b,c,d,e,f,g,h,i,j,l,m,n,o,p=>if a=true then(some false)else(rillmeterref15_Equal.l0 k 0 b c d e f g h i j l m n o p)
def rillmeterref15_Equal.l0:Nat→Int→Int→Int→Int→List (S74)→Int→Int→List (List Int)→Int→Int→Int→List (S74)→Int→Int→List (List Int)→Option (Bool)
  |0,_,_,_,_,_,_,_,_,_,_,_,_,_,_,_=>none
  |k+1,a,b,c,d,e,f,g,h,i,j,l,m,n,o,p=>if a<(e.length:Int)then(if 0≤a then(if a<(m.length:Int)then(if((rd_T74 e a).f1)=((rd_T74 m a).f1)then(rillmeterref15_Equal.j2 k a ((((rd_T74 e a).f0).length:Int) != (((rd_T74 m a).f0).length:Int)) b c d e f g h i j l m n o p ((rd_T74 e a).f0) ((rd_T74 e a).f1) ((rd_T74 m a).f0) ((rd_T74 m a).f1))else(rillmeterref15_Equal.j2 k a true b c d e f g h i j l m n o p ((rd_T74 e a).f0) ((rd_T74 e a).f1) ((rd_T74 m a).f0) ((rd_T74 m a).f1)))else(none))else(none))else(some true)
def rillmeterref15_Equal.j2:Nat→Int→Bool→Int→Int→Int→List (S74)→Int→Int→List (List Int)→Int→Int→Int→List (S74)→Int→Int→List (List Int)→List (S77)→Int→List (S77)→Int→Option (Bool)
  |0,_,_,_,_,_,_,_,_,_,_,_,_,_,_,_,_,_,_,_,_=>none
  |k+1,a,b,c,d,e,f,g,h,i,j,l,m,n,o,p,q,r,s,t,u=>if b=true then(some false)else(rillmeterref15_Equal.l1 k a 0 c d e f g h i j l m n o p q r s t u)
def rillmeterref15_Equal.l1:Nat→Int→Int→Int→Int→Int→List (S74)→Int→Int→List (List Int)→Int→Int→Int→List (S74)→Int→Int→List (List Int)→List (S77)→Int→List (S77)→Int→Option (Bool)
  |0,_,_,_,_,_,_,_,_,_,_,_,_,_,_,_,_,_,_,_,_=>none
  |k+1,a,b,c,d,e,f,g,h,i,j,l,m,n,o,p,q,r,s,t,u=>if b<(r.length:Int)then(if 0≤b then(if b<(t.length:Int)then(if(!((((rd_T77 r b).f0).toList)==(((rd_T77 t b).f0).toList)) || (!(((rd_T77 r b).f1)==((rd_T77 t b).f1)) || (!(((rd_T77 r b).f2)==((rd_T77 t b).f2)))))=true then(some false)else(rillmeterref15_Equal.l1 k a (wrap64 (b+1)) c d e f g h i j l m n o p q r s t u))else(none))else(none))else(rillmeterref15_Equal.l0 k (wrap64 (a+1)) c d e f g h i j l m n o p q)
end
def rillmeterref15_Equal.f (k:Nat)(a0_0 a0_1 a0_2:Int)(l0_3:List (S74))(a0_4 a0_5:Int)(l0_6:List (List Int))(a1_0 a1_1 a1_2:Int)(l1_3:List (S74))(a1_4 a1_5:Int)(l1_6:List (List Int)):Option (Bool):=if a0_0=a1_0 then(if a0_1=a1_1 then(if a0_2=a1_2 then(if(l0_3.length:Int)=(l1_3.length:Int)then((rillmeterref11_Equal.f k a0_4 a0_5 l0_6 a1_4 a1_5 l1_6).bind fun t589=>(rillmeterref15_Equal.j0 k (!t589) a0_0 a0_1 a0_2 l0_3 a0_4 a0_5 l0_6 a1_0 a1_1 a1_2 l1_3 a1_4 a1_5 l1_6))else(rillmeterref15_Equal.j0 k true a0_0 a0_1 a0_2 l0_3 a0_4 a0_5 l0_6 a1_0 a1_1 a1_2 l1_3 a1_4 a1_5 l1_6))else(rillmeterref15_Equal.j0 k true a0_0 a0_1 a0_2 l0_3 a0_4 a0_5 l0_6 a1_0 a1_1 a1_2 l1_3 a1_4 a1_5 l1_6))else(rillmeterref15_Equal.j0 k true a0_0 a0_1 a0_2 l0_3 a0_4 a0_5 l0_6 a1_0 a1_1 a1_2 l1_3 a1_4 a1_5 l1_6))else(rillmeterref15_Equal.j0 k true a0_0 a0_1 a0_2 l0_3 a0_4 a0_5 l0_6 a1_0 a1_1 a1_2 l1_3 a1_4 a1_5 l1_6)
theorem rillmeterref15_Equal.mono_l:∀k,(∀y0 y1 y2 y3 y4 y5 y6 y7 y8 y9 y10 y11 y12 y13 y14,LeO (rillmeterref15_Equal.j0 k y0 y1 y2 y3 y4 y5 y6 y7 y8 y9 y10 y11 y12 y13 y14) (rillmeterref15_Equal.j0 (k+1) y0 y1 y2 y3 y4 y5 y6 y7 y8 y9 y10 y11 y12 y13 y14))∧(∀y0 y1 y2 y3 y4 y5 y6 y7 y8 y9 y10 y11 y12 y13 y14,LeO (rillmeterref15_Equal.l0 k y0 y1 y2 y3 y4 y5 y6 y7 y8 y9 y10 y11 y12 y13 y14) (rillmeterref15_Equal.l0 (k+1) y0 y1 y2 y3 y4 y5 y6 y7 y8 y9 y10 y11 y12 y13 y14))∧(∀y0 y1 y2 y3 y4 y5 y6 y7 y8 y9 y10 y11 y12 y13 y14 y15 y16 y17 y18 y19,LeO (rillmeterref15_Equal.j2 k y0 y1 y2 y3 y4 y5 y6 y7 y8 y9 y10 y11 y12 y13 y14 y15 y16 y17 y18 y19) (rillmeterref15_Equal.j2 (k+1) y0 y1 y2 y3 y4 y5 y6 y7 y8 y9 y10 y11 y12 y13 y14 y15 y16 y17 y18 y19))∧(∀y0 y1 y2 y3 y4 y5 y6 y7 y8 y9 y10 y11 y12 y13 y14 y15 y16 y17 y18 y19,LeO (rillmeterref15_Equal.l1 k y0 y1 y2 y3 y4 y5 y6 y7 y8 y9 y10 y11 y12 y13 y14 y15 y16 y17 y18 y19) (rillmeterref15_Equal.l1 (k+1) y0 y1 y2 y3 y4 y5 y6 y7 y8 y9 y10 y11 y12 y13 y14 y15 y16 y17 y18 y19))
  |0=>⟨fun _ _ _ _ _ _ _ _ _ _ _ _ _ _ _ r h=>by simp[rillmeterref15_Equal.j0]at h,fun _ _ _ _ _ _ _ _ _ _ _ _ _ _ _ r h=>by simp[rillmeterref15_Equal.l0]at h,fun _ _ _ _ _ _ _ _ _ _ _ _ _ _ _ _ _ _ _ _ r h=>by simp[rillmeterref15_Equal.j2]at h,fun _ _ _ _ _ _ _ _ _ _ _ _ _ _ _ _ _ _ _ _ r h=>by simp[rillmeterref15_Equal.l1]at h⟩
  |k+1=>by
    obtain⟨ih0,ih1,ih2,ih3⟩:=rillmeterref15_Equal.mono_l k
    refine⟨?_,?_,?_,?_⟩<;>intros
    all_goals first|unfold rillmeterref15_Equal.j0|unfold rillmeterref15_Equal.l0|unfold rillmeterref15_Equal.j2|unfold rillmeterref15_Equal.l1
    all_goals repeat' with_reducible first|exact ih0 .. |exact ih1 .. |exact ih2 .. |exact ih3 .. |exact rillmeterref11_Equal.mono .. |exact LeO.refl _|exact LeO.none _|refine LeO.ite ?_ ?_|refine LeO.bind ?_ (fun _=>?_)
theorem rillmeterref15_Equal.mono:∀a0 a1 a2 a3 a4 a5 a6 a7 a8 a9 a10 a11 a12 a13 k,LeO (rillmeterref15_Equal.f k a0 a1 a2 a3 a4 a5 a6 a7 a8 a9 a10 a11 a12 a13) (rillmeterref15_Equal.f (k+1) a0 a1 a2 a3 a4 a5 a6 a7 a8 a9 a10 a11 a12 a13):=by
  intro a0 a1 a2 a3 a4 a5 a6 a7 a8 a9 a10 a11 a12 a13 k
  obtain⟨ih0,ih1,ih2,ih3⟩:=rillmeterref15_Equal.mono_l k
  unfold rillmeterref15_Equal.f
  repeat' with_reducible first|exact ih0 .. |exact ih1 .. |exact ih2 .. |exact ih3 .. |exact rillmeterref11_Equal.mono .. |exact LeO.refl _|exact LeO.none _|refine LeO.ite ?_ ?_|refine LeO.bind ?_ (fun _=>?_)
def rillmeterref15_Equal.T6:Bool × List (List Nat × List Nat):=(true,[([],[]),([0],[0]),([],[]),([1,2],[1,2]),([3],[3]),([],[]),([5],[5]),([],[]),([6,7],[6,7]),([8],[8]),([],[]),([],[]),([10,4,0,1,2,3,4,10,11],[4,10]),([11,9,12,0,1,2,3,4,5,6,7,8,9,10,11,12],[9,11])])
def rillmeterref15_Equal.B6:List Nat:=[0,1,0,7,15,0,32,0,224,480,0,0,3103,8191]
theorem rillmeterref15_Equal.tab6:rtab .any (opsOf Try.f20 6)=rillmeterref15_Equal.T6:=by kernel_rfl
theorem rillmeterref15_Equal.bits6:waitsOk rillmeterref15_Equal.T6.2 rillmeterref15_Equal.B6=true:=by kernel_rfl
def rillmeterref15_Equal.T12:Bool × List (List Nat × List Nat):=(true,[([],[]),([0],[0]),([],[]),([1,2],[1,2]),([3],[3]),([],[]),([5],[5]),([],[]),([6,7],[6,7]),([8],[8]),([4,9],[4,9])])
def rillmeterref15_Equal.B12:List Nat:=[0,1,0,7,15,0,32,0,224,480,1023]
theorem rillmeterref15_Equal.tab12:rtab .any (opsOf Try.f20 12)=rillmeterref15_Equal.T12:=by kernel_rfl
theorem rillmeterref15_Equal.bits12:waitsOk rillmeterref15_Equal.T12.2 rillmeterref15_Equal.B12=true:=by kernel_rfl
theorem rillmeterref15_Equal.calls (k:Nat)(a0_0 a0_1 a0_2:Int)(A0_3:Option Addr)(c0_3:Nat)(l0_3:List (S74))(a0_4 a0_5:Int)(A0_6:Option Addr)(c0_6:Nat)(l0_6:List (List Int))(a1_0 a1_1 a1_2:Int)(A1_3:Option Addr)(c1_3:Nat)(l1_3:List (S74))(a1_4 a1_5:Int)(A1_6:Option Addr)(c1_6:Nat)(l1_6:List (List Int))(r:Bool)(w:World)(hr0_3:Kd.C k74 w A0_3 l0_3.length l0_3)(hc0_3:l0_3.length≤c0_3)(hr0_6:Kd.C (Kd.slice 3 (Kd.int .i64)) w A0_6 l0_6.length l0_6)(hc0_6:l0_6.length≤c0_6)(hr1_3:Kd.C k74 w A1_3 l1_3.length l1_3)(hc1_3:l1_3.length≤c1_3)(hr1_6:Kd.C (Kd.slice 3 (Kd.int .i64)) w A1_6 l1_6.length l1_6)(hc1_6:l1_6.length≤c1_6)(h:rillmeterref15_Equal.f k a0_0 a0_1 a0_2 l0_3 a0_4 a0_5 l0_6 a1_0 a1_1 a1_2 l1_3 a1_4 a1_5 l1_6=some r):
    Calls Try.prog 20 #[.agg #[.int .u64 a0_0,.int .i64 a0_1,.int .i64 a0_2,.slice A0_3 l0_3.length c0_3,.int .u64 a0_4,.int .i64 a0_5,.slice A0_6 l0_6.length c0_6],.agg #[.int .u64 a1_0,.int .i64 a1_1,.int .i64 a1_2,.slice A1_3 l1_3.length c1_3,.int .u64 a1_4,.int .i64 a1_5,.slice A1_6 l1_6.length c1_6]] w fun e w'=>e=.returned (.bool r)∧Below w.heap.size w w':=by
 have hu32:=Try.underlying32;have hu30:=Try.underlying30;have hu74:=Try.underlying74;have hu77:=Try.underlying77;have mF:=mk_ hr0_3;have nJ:=mk_ hc0_3;clear hr0_3 hc0_3;have mG:=mk_ hr0_6;have mH:=mk_ hc0_6;clear hr0_6 hc0_6;have mI:=mk_ hr1_3;have nK:=mk_ hc1_3;clear hr1_3 hc1_3;have mJ:=mk_ hr1_6;have mK:=mk_ hc1_6;clear hr1_6 hc1_6;have HB:=mk_ (Below.refl w.heap.size w);have H:=h;clear h;unfold rillmeterref15_Equal.f at H;have HC3:=mk_ H;clear H
 go_enter Try.func20,Try.ntmps20
 go_upto_region 1 with(first|(refine gq_ 2 ?_;(try(refine gate_guard (by rfl) ?_;dsimp only));refine bx_ 2 #[.int .u64 a0_0,.int .i64 a0_1,.int .i64 a0_2,.slice A0_3 l0_3.length c0_3,.int .u64 a0_4,.int .i64 a0_5,.slice A0_6 l0_6.length c0_6] 32 ?_;intro aD hg w4 hbox hb;have aA:=mk_ (hbox);have nL:=gx_ hg HB;have nM:=gx_ hg HB;replace HB:=bs_ HB hb;clear hb hbox hg)|(refine gq_ 3 ?_;(try(refine gate_guard (by rfl) ?_;dsimp only));refine bx_ 3 #[.int .u64 a1_0,.int .i64 a1_1,.int .i64 a1_2,.slice A1_3 l1_3.length c1_3,.int .u64 a1_4,.int .i64 a1_5,.slice A1_6 l1_6.length c1_6] 32 ?_;intro aF hg w5 hbox hb;have aB:=mk_ (hbox);have nN:=gx_ hg HB;have nO:=gx_ hg HB;have bN:=nx_ hg aA;have:=bN.out;have bO:=ny_ hg aA;have:=bO.out;replace aA:=bb_ aA hb;replace HB:=bs_ HB hb;clear hb hbox hg))
 (try simp only[Act.put,sa_,sb_,sc_])
 go_cut [44] (fun mL wc=>∃(kq:Nat)(cQ:Bool),mL=.bool cQ∧Aside0 (rillmeterref15_Equal.j0 kq cQ a0_0 a0_1 a0_2 l0_3 a0_4 a0_5 l0_6 a1_0 a1_1 a1_2 l1_3 a1_4 a1_5 l1_6=some r)∧Aside0 (kq≤k)∧Aside0 (wc.heap[aD]? =some (.cells #[.int .u64 a0_0,.int .i64 a0_1,.int .i64 a0_2,(.slice A0_3 l0_3.length c0_3),.int .u64 a0_4,.int .i64 a0_5,(.slice A0_6 l0_6.length c0_6)] 32 (0,0)))∧Aside0 (wc.heap[aF]? =some (.cells #[.int .u64 a1_0,.int .i64 a1_1,.int .i64 a1_2,(.slice A1_3 l1_3.length c1_3),.int .u64 a1_4,.int .i64 a1_5,(.slice A1_6 l1_6.length c1_6)] 32 (0,0)))∧Aside0 (Below w.heap.size w wc))
 case first=>
  have H:=HC3.out;clear HC3
  by_cases c6:a0_0=a1_0
  ·rw[if_pos c6]at H;have bP:=beq_iff_eq.mpr c6;have iR:=bne_eq_false_iff_eq.mpr c6;clear c6
   (first|rw[bP]|(simp only[i64_w,i32_w];rw[bP])|skip)
   by_cases c7:a0_1=a1_1
   ·rw[if_pos c7]at H;have iS:=beq_iff_eq.mpr c7;have iT:=bne_eq_false_iff_eq.mpr c7;clear c7
    by_cases c8:a0_2=a1_2
    ·rw[if_pos c8]at H;have iU:=beq_iff_eq.mpr c8;have iV:=bne_eq_false_iff_eq.mpr c8;clear c8
     by_cases c9:(l0_3.length:Int)=(l1_3.length:Int)
     ·rw[if_pos c9]at H;have iW:=beq_iff_eq.mpr c9;have iX:=bne_eq_false_iff_eq.mpr c9
      have iY:(l0_3.length==l1_3.length)=true:=by first|simpa using c9|(simp at c9 ⊢;omega)
      clear c9;replace H:=bi_ H;obtain⟨cD,mM,H⟩:=H;have H':=mk_ H;clear H;have:=cz7_ aA;have:=fz7_ aA;have:=cz7_ aB;have:=fz7_ aB
      go_wp2_with (first|(go_at_call 51;(with_reducible refine(rillmeterref11_Equal.calls k a0_4 a0_5 _ _ l0_6 a1_4 a1_5 _ _ l1_6 cD _ ?side1 ?side2 ?side3 ?side4 mM.out).mono ?_);(case side1=>exact ck_ (Kd.C_below mG.out HB.out));(case side2=>exact mH.out);(case side3=>exact ck_ (Kd.C_below mJ.out HB.out));(case side4=>exact mK.out);rintro e nR ⟨rfl,hb⟩;replace aA:=bb_ aA hb;replace aB:=bb_ aB hb;replace HB:=bs_ HB hb;(try clear hb)))
      go_meet
      case rel=>exact⟨_,(!cD),eq_,H',⟨by first|omega|exact Nat.le_refl _⟩,⟨bk_ aA⟩,⟨bk_ aB⟩,⟨bl_ HB⟩⟩
     ·rw[if_neg c9]at H;have iW:=beq_eq_false_iff_ne.mpr c9;have iX:=bne_iff_ne.mpr c9
      have iY:(l0_3.length==l1_3.length)=false:=by first|simpa using c9|(simp at c9 ⊢;omega)
      have H':=mk_ H;clear H;have:=cz7_ aA;have:=fz7_ aA;have:=cz7_ aB;have:=fz7_ aB
      go_wp2
      go_meet
      case rel=>exact⟨_,(true),eq_,H',⟨by first|omega|exact Nat.le_refl _⟩,⟨bk_ aA⟩,⟨bk_ aB⟩,⟨bl_ HB⟩⟩
    ·rw[if_neg c8]at H;have iU:=beq_eq_false_iff_ne.mpr c8;have iV:=bne_iff_ne.mpr c8;have H':=mk_ H;clear H;have:=cz7_ aA;have:=fz7_ aA;have:=cz7_ aB;have:=fz7_ aB
     go_wp2
     go_meet
     case rel=>exact⟨_,(true),eq_,H',⟨by first|omega|exact Nat.le_refl _⟩,⟨bk_ aA⟩,⟨bk_ aB⟩,⟨bl_ HB⟩⟩
   ·rw[if_neg c7]at H;have iS:=beq_eq_false_iff_ne.mpr c7;have iT:=bne_iff_ne.mpr c7;have H':=mk_ H;clear H;have:=cz7_ aA;have:=fz7_ aA;have:=cz7_ aB;have:=fz7_ aB
    go_wp2
    go_meet
    case rel=>exact⟨_,(true),eq_,H',⟨by first|omega|exact Nat.le_refl _⟩,⟨bk_ aA⟩,⟨bk_ aB⟩,⟨bl_ HB⟩⟩
  ·rw[if_neg c6]at H;have bP:=beq_eq_false_iff_ne.mpr c6;have iR:=bne_iff_ne.mpr c6
   (first|rw[bP]|(simp only[i64_w,i32_w];rw[bP])|skip)
   have H':=mk_ H;clear H;have:=cz7_ aA;have:=fz7_ aA;have:=cz7_ aB;have:=fz7_ aB
   go_wp2
   go_meet
   case rel=>exact⟨_,(true),eq_,H',⟨by first|omega|exact Nat.le_refl _⟩,⟨bk_ aA⟩,⟨bk_ aB⟩,⟨bl_ HB⟩⟩
 case rest=>
  clear HC3
  obtain⟨kq,cQ,rfl,HA,HJ2,aA,aB,HB⟩:=hcut
  cases kq with
  |zero=>exact absurd HA.out (by simp[rillmeterref15_Equal.j0])
  |succ iZ=>
   have H:=HA.out;clear HA;simp only[rillmeterref15_Equal.j0]at H
   by_cases cE:cQ=true
   ·subst cE
    rw[if_pos rfl]at H;obtain rfl:=Option.some.inj H
    go_wp2
    go_ret;exact⟨er_,bl_ HB⟩
   ·replace cE:=Bool.eq_false_iff.mpr cE;subst cE
    rw[if_neg (show¬(false=true)by decide)]at H;have H':=mk_ H;clear H
    go_wp2
    go_loopg [5] iZ (fun kq v5 w'=>∃(aC:Int),v5=.int .i64 aC∧Aside0 (rillmeterref15_Equal.l0 kq aC a0_0 a0_1 a0_2 l0_3 a0_4 a0_5 l0_6 a1_0 a1_1 a1_2 l1_3 a1_4 a1_5 l1_6=some r)∧Aside0 (kq≤iZ)∧Aside0 (w'.heap[aD]? =some (.cells #[.int .u64 a0_0,.int .i64 a0_1,.int .i64 a0_2,(.slice A0_3 l0_3.length c0_3),.int .u64 a0_4,.int .i64 a0_5,(.slice A0_6 l0_6.length c0_6)] 32 (0,0)))∧Aside0 (w'.heap[aF]? =some (.cells #[.int .u64 a1_0,.int .i64 a1_1,.int .i64 a1_2,(.slice A1_3 l1_3.length c1_3),.int .u64 a1_4,.int .i64 a1_5,(.slice A1_6 l1_6.length c1_6)] 32 (0,0)))∧Aside0 (Below w.heap.size w w'))
    case atStart=>exact⟨(0),eq_,H',⟨Nat.le_refl _⟩,⟨bk_ aA⟩,⟨bk_ aB⟩,⟨bl_ HB⟩⟩
    case round=>
     clear H';(try clear cE)
     obtain⟨aC,rfl,HA,HK2,aA,aB,HB⟩:=hrel
     cases gk with
     |zero=>exact absurd HA.out (by simp[rillmeterref15_Equal.l0])
     |succ k2=>
      have H:=HA.out;clear HA;simp only[rillmeterref15_Equal.l0]at H
      rcases ic_ H with⟨jA,h_⟩|⟨jA,h_⟩
      ·clear H;have H:=h_;clear h_;replace H:=it_ H;obtain⟨jW,H⟩:=H;replace H:=it_ H;obtain⟨jX,H⟩:=H;have HC31:=mk_ H;clear H;have:=cz7_ aA;have:=fz7_ aA
       try go_wp2
       replace aA:=bd_ aA;replace aB:=bd_ aB;replace HB:=bw_ HB;obtain⟨cF,cG,aX,A590_0,c590_0,e590,bQ,bR,lM,hi590_0⟩:=aq_ (at_T74 mF.out aC);have aP:=bR;have aQ:=bQ
       cases e590;(try replace bQ:=bt_ HB bQ);(try replace bR:=bt_ HB bR);have jB:=mk_ hi590_0;have pC:=mk_ lM;clear hi590_0 lM;obtain⟨cH,cI,aY,A591_0,c591_0,e591,bS,bT,lN,hi591_0⟩:=aq_ (at_T74 mI.out aC);have aR:=bT;have aS:=bS
       cases e591;(try replace bS:=bt_ HB bS);(try replace bT:=bt_ HB bT);have jC:=mk_ hi591_0;have pD:=mk_ lN;clear hi591_0 lN
       generalize hD_:wr.drew=pE at aA aB HB jB jC bQ bR bS bT;refine sx_ (n:=14) (ds:=[]) hD_ (cw7_ aA (cw7_ aB (And.intro (bt_ HB aQ) (And.intro (bt_ HB aP) (And.intro (bt_ HB aS) (bt_ HB aR)))))) (fun hHeld=>?_);refine with_tabW rillmeterref15_Equal.tab6 rillmeterref15_Equal.bits6 (fun HT_ HW_=>?_);clear hD_;refine p1_ 0 1 ?_;refine p1_ 2 5 ?_;refine p1_ 5 37 ?_;refine p1_ 7 165 ?_;refine t1_ 1 167 ?_;refine p1_ 3 175 ?_;refine t1_ 4 191 ?_;refine t1_ 6 255 ?_;refine p1_ 8 511 ?_;refine t1_ 9 1023 ?_
       refine join_ (σ:=Nat × Nat) 2 (mB 14 4095) (fun s_=>[(6,.pointer (some ⟨s_.1,0,none⟩)),(7,.pointer (some ⟨s_.2,0,none⟩))]) (fun s_ w'=>(w'.cell? ⟨aD,0,none⟩=some (.int .u64 a0_0)∧w'.cell? ⟨aD,1,none⟩=some (.int .i64 a0_1)∧w'.cell? ⟨aD,2,none⟩=some (.int .i64 a0_2)∧w'.cell? ⟨aD,3,none⟩=some (.slice (some aX) l0_3.length c0_3)∧w'.cell? ⟨aD,4,none⟩=some (.int .u64 a0_4)∧w'.cell? ⟨aD,5,none⟩=some (.int .i64 a0_5)∧w'.cell? ⟨aD,6,none⟩=some (.slice A0_6 l0_6.length c0_6)∧w'.cell? ⟨aF,0,none⟩=some (.int .u64 a1_0)∧w'.cell? ⟨aF,1,none⟩=some (.int .i64 a1_1)∧w'.cell? ⟨aF,2,none⟩=some (.int .i64 a1_2)∧w'.cell? ⟨aF,3,none⟩=some (.slice (some aY) l1_3.length c1_3)∧w'.cell? ⟨aF,4,none⟩=some (.int .u64 a1_4)∧w'.cell? ⟨aF,5,none⟩=some (.int .i64 a1_5)∧w'.cell? ⟨aF,6,none⟩=some (.slice A1_6 l1_6.length c1_6)∧w'.cell? (aX.add ((aC).toNat*2))=some (.slice A590_0 ((rd_T74 l0_3 aC).f0).length c590_0)∧w'.cell? ⟨(aX.add ((aC).toNat*2)).block,(aX.add ((aC).toNat*2)).off+1,none⟩=some (.int .i64 ((rd_T74 l0_3 aC).f1))∧w'.cell? (aY.add ((aC).toNat*2))=some (.slice A591_0 ((rd_T74 l1_3 aC).f0).length c591_0)∧w'.cell? ⟨(aY.add ((aC).toNat*2)).block,(aY.add ((aC).toNat*2)).off+1,none⟩=some (.int .i64 ((rd_T74 l1_3 aC).f1)))∧(w'.heap[aD]? =some (.cells #[.int .u64 a0_0,.int .i64 a0_1,.int .i64 a0_2,.slice (some aX) l0_3.length c0_3,.int .u64 a0_4,.int .i64 a0_5,.slice A0_6 l0_6.length c0_6] 32 (0,0)))∧(w'.heap[aF]? =some (.cells #[.int .u64 a1_0,.int .i64 a1_1,.int .i64 a1_2,.slice (some aY) l1_3.length c1_3,.int .u64 a1_4,.int .i64 a1_5,.slice A1_6 l1_6.length c1_6] 32 (0,0)))∧(w'.heap[s_.1]? =some (.cells #[.slice none 0 0,.int .i64 0] 74 (0,0)))∧(w'.heap[s_.2]? =some (.cells #[.slice none 0 0,.int .i64 0] 74 (0,0)))∧(w.heap.size≤s_.1)∧(w.heap.size≤s_.1)∧(aD≠s_.1)∧(s_.1≠aD)∧(aF≠s_.1)∧(s_.1≠aF)∧(s_.2≠s_.1)∧(s_.1≠s_.2)∧(w.heap.size≤s_.2)∧(w.heap.size≤s_.2)∧(aD≠s_.2)∧(s_.2≠aD)∧(aF≠s_.2)∧(s_.2≠aF)∧(Below w.heap.size w w')) ?_ ?_
       rotate_left
       ·intro hCont;refine two_ (i:=10) (j:=11) (Ni:=some 6) (Nj:=some 7) (mB 14 2047) (mB 14 3071) rfl rfl rfl rfl (two_of HT_.out (by kernel_rfl)) (by decide) (by decide) (fun K hK=>?_) (fun K hK=>?_)
        ·skip;refine by_ 6 #[.slice none 0 0,.int .i64 0] 74 ?_
         intro aG hg mT hbox hb;have aI:=mk_ (hbox);have aJ:=gx_ hg HB;have iM:=gx_ hg HB;replace HB:=bs_ HB hb;have aN:=nx_ hg aA;have:=aN.out;have bB:=ny_ hg aA;have:=bB.out;replace aA:=bb_ aA hb;have aO:=nx_ hg aB;have:=aO.out;have bC:=ny_ hg aB;have:=bC.out;replace aB:=bb_ aB hb;clear hb hbox hg;refine hK.out _ _ hl_ (fun hHeld=>?_);clear hK K;refine nm_ 6 ?_;refine oq_ 11 (some 7) 14 4095 HT_ (fun K hK=>?_);refine by_ 7 #[.slice none 0 0,.int .i64 0] 74 ?_;intro aH hg mU hbox hb;have aK:=mk_ (hbox);have aL:=gx_ hg HB;have iN:=gx_ hg HB;replace HB:=bs_ HB hb;have aT:=nx_ hg aA;have:=aT.out;have bL:=ny_ hg aA;have:=bL.out;replace aA:=bb_ aA hb;have aU:=nx_ hg aB;have:=aU.out;have bM:=ny_ hg aB;have:=bM.out;replace aB:=bb_ aB hb;have aV:=nx_ hg aI;have:=aV.out;have aW:=ny_ hg aI;have:=aW.out;replace aI:=bb_ aI hb;clear hb hbox hg
         refine hK.out _ _ hl_ (fun hHeld=>?_);clear hK K;refine nm_ 7 ?_
         exact norm_ (by simp only[putAll,Act.put,sa_,sb_,sc_]) (hCont (aG,aH) _ ⟨hHeld,(bk_ aA),(bk_ aB),(bk_ aI),(bk_ aK),aJ.out,iM.out,aN.out,bB.out,aO.out,bC.out,aW.out,aV.out,aL.out,iN.out,aT.out,bL.out,aU.out,bM.out,(bl_ HB)⟩)
        ·skip;refine by_ 7 #[.slice none 0 0,.int .i64 0] 74 ?_
         intro aH hg mT hbox hb;have aK:=mk_ (hbox);have aL:=gx_ hg HB;have iN:=gx_ hg HB;replace HB:=bs_ HB hb;have aT:=nx_ hg aA;have:=aT.out;have bL:=ny_ hg aA;have:=bL.out;replace aA:=bb_ aA hb;have aU:=nx_ hg aB;have:=aU.out;have bM:=ny_ hg aB;have:=bM.out;replace aB:=bb_ aB hb;clear hb hbox hg;refine hK.out _ _ hl_ (fun hHeld=>?_);clear hK K;refine nm_ 7 ?_;refine oq_ 10 (some 6) 14 4095 HT_ (fun K hK=>?_);refine by_ 6 #[.slice none 0 0,.int .i64 0] 74 ?_;intro aG hg mU hbox hb;have aI:=mk_ (hbox);have aJ:=gx_ hg HB;have iM:=gx_ hg HB;replace HB:=bs_ HB hb;have aN:=nx_ hg aA;have:=aN.out;have bB:=ny_ hg aA;have:=bB.out;replace aA:=bb_ aA hb;have aO:=nx_ hg aB;have:=aO.out;have bC:=ny_ hg aB;have:=bC.out;replace aB:=bb_ aB hb;have aW:=nx_ hg aK;have:=aW.out;have aV:=ny_ hg aK;have:=aV.out;replace aK:=bb_ aK hb;clear hb hbox hg
         refine hK.out _ _ hl_ (fun hHeld=>?_);clear hK K;refine nm_ 6 ?_
         exact norm_ (by simp only[putAll,Act.put,sa_,sb_,sc_]) (hCont (aG,aH) _ ⟨hHeld,(bk_ aA),(bk_ aB),(bk_ aI),(bk_ aK),aJ.out,iM.out,aN.out,bB.out,aO.out,bC.out,aW.out,aV.out,aL.out,iN.out,aT.out,bL.out,aU.out,bM.out,(bl_ HB)⟩)
       rintro⟨aG,aH⟩ aM ⟨hS_,h0_,h1_,h2_,h3_,h4_,h5_,h6_,h7_,h8_,h9_,h10_,h11_,h12_,h13_,h14_,h15_,h16_,h17_,h18_⟩;(try dsimp only at hS_ h0_ h1_ h2_ h3_ h4_ h5_ h6_ h7_ h8_ h9_ h10_ h11_ h12_ h13_ h14_ h15_ h16_ h17_ h18_);replace aA:=mk_ (h0_);replace aB:=mk_ (h1_);have aI:=mk_ (h2_);have aK:=mk_ (h3_);have aJ:=mk_ (h4_);have iM:=mk_ (h5_);have aN:=mk_ (h6_);have:=aN.out;have bB:=mk_ (h7_);have:=bB.out;have aO:=mk_ (h8_);have:=aO.out;have bC:=mk_ (h9_);have:=bC.out;have aW:=mk_ (h10_);have:=aW.out;have aV:=mk_ (h11_);have:=aV.out;have aL:=mk_ (h12_);have iN:=mk_ (h13_);have aT:=mk_ (h14_);have:=aT.out;have bL:=mk_ (h15_);have:=bL.out;have aU:=mk_ (h16_);have:=aU.out;have bM:=mk_ (h17_);have:=bM.out;replace HB:=mk_ (h18_);clear h0_ h1_ h2_ h3_ h4_ h5_ h6_ h7_ h8_ h9_ h10_ h11_ h12_ h13_ h14_ h15_ h16_ h17_ h18_
       have hHeld:aM.cell? ⟨aD,0,none⟩=some (.int .u64 a0_0)∧aM.cell? ⟨aD,1,none⟩=some (.int .i64 a0_1)∧aM.cell? ⟨aD,2,none⟩=some (.int .i64 a0_2)∧aM.cell? ⟨aD,3,none⟩=some (.slice (some aX) l0_3.length c0_3)∧aM.cell? ⟨aD,4,none⟩=some (.int .u64 a0_4)∧aM.cell? ⟨aD,5,none⟩=some (.int .i64 a0_5)∧aM.cell? ⟨aD,6,none⟩=some (.slice A0_6 l0_6.length c0_6)∧aM.cell? ⟨aF,0,none⟩=some (.int .u64 a1_0)∧aM.cell? ⟨aF,1,none⟩=some (.int .i64 a1_1)∧aM.cell? ⟨aF,2,none⟩=some (.int .i64 a1_2)∧aM.cell? ⟨aF,3,none⟩=some (.slice (some aY) l1_3.length c1_3)∧aM.cell? ⟨aF,4,none⟩=some (.int .u64 a1_4)∧aM.cell? ⟨aF,5,none⟩=some (.int .i64 a1_5)∧aM.cell? ⟨aF,6,none⟩=some (.slice A1_6 l1_6.length c1_6)∧aM.cell? (aX.add ((aC).toNat*2))=some (.slice A590_0 ((rd_T74 l0_3 aC).f0).length c590_0)∧aM.cell? ⟨(aX.add ((aC).toNat*2)).block,(aX.add ((aC).toNat*2)).off+1,none⟩=some (.int .i64 ((rd_T74 l0_3 aC).f1))∧aM.cell? (aY.add ((aC).toNat*2))=some (.slice A591_0 ((rd_T74 l1_3 aC).f0).length c591_0)∧aM.cell? ⟨(aY.add ((aC).toNat*2)).block,(aY.add ((aC).toNat*2)).off+1,none⟩=some (.int .i64 ((rd_T74 l1_3 aC).f1)):=hS_;refine norm_ (a':=?_) ?_ ?_;rotate_left
       ·simp only[putAll,Act.put,sa_,sb_,sc_];rfl
       refine oq_ 12 (none) 14 8191 HT_ (fun K hK=>?_);have hs38:aM.cell? ⟨aG,0,none⟩=some (.slice none 0 0):=bc_ aI 0;have hfs38:=blk_frozen aI.out 0;have hs39:aM.cell? ⟨aG,1,none⟩=some (.int .i64 0):=bc_ aI 1;have hfs39:=blk_frozen aI.out 1;refine skip_ (w1:=?_) (by rfl) rfl ?_ ?_;rotate_left
       ·go_simp;rfl
       refine hK.out _ _ hm_ (fun hHeld=>?_)
       clear hK K;refine oq_ 13 (none) 14 16383 HT_ (fun K hK=>?_);have hs40:aM.cell? ⟨aH,0,none⟩=some (.slice none 0 0):=bc_ aK 0;have hfs40:=blk_frozen aK.out 0;have hs41:aM.cell? ⟨aH,1,none⟩=some (.int .i64 0):=bc_ aK 1;have hfs41:=blk_frozen aK.out 1;refine skip_ (w1:=?_) (by rfl) rfl ?_ ?_;rotate_left
       ·go_simp;rfl
       refine hK.out _ _ hm_ (fun hHeld=>?_)
       clear hK K;refine dq_ HT_ ?_
       go_upto_region 7 with(fail)
       go_cut [75] (fun mV wc=>∃(kq:Nat)(iO:Bool),mV=.bool iO∧Aside0 (rillmeterref15_Equal.j2 kq aC iO a0_0 a0_1 a0_2 l0_3 a0_4 a0_5 l0_6 a1_0 a1_1 a1_2 l1_3 a1_4 a1_5 l1_6 ((rd_T74 l0_3 aC).f0) ((rd_T74 l0_3 aC).f1) ((rd_T74 l1_3 aC).f0) ((rd_T74 l1_3 aC).f1)=some r)∧Aside0 (kq≤k2)∧Aside0 (wc.heap[aD]? =some (.cells #[.int .u64 a0_0,.int .i64 a0_1,.int .i64 a0_2,(.slice (some aX) l0_3.length c0_3),.int .u64 a0_4,.int .i64 a0_5,(.slice A0_6 l0_6.length c0_6)] 32 (0,0)))∧Aside0 (wc.heap[aF]? =some (.cells #[.int .u64 a1_0,.int .i64 a1_1,.int .i64 a1_2,(.slice (some aY) l1_3.length c1_3),.int .u64 a1_4,.int .i64 a1_5,(.slice A1_6 l1_6.length c1_6)] 32 (0,0)))∧Aside0 (wc.heap[aG]? =some (.cells #[(.slice A590_0 ((rd_T74 l0_3 aC).f0).length c590_0),.int .i64 ((rd_T74 l0_3 aC).f1)] 74 (0,0)))∧Aside0 (wc.heap[aH]? =some (.cells #[(.slice A591_0 ((rd_T74 l1_3 aC).f0).length c591_0),.int .i64 ((rd_T74 l1_3 aC).f1)] 74 (0,0)))∧Aside0 (Below w.heap.size w wc))
       case first=>
        have H:=HC31.out;clear HC31
        by_cases bJ:((rd_T74 l0_3 aC).f1)=((rd_T74 l1_3 aC).f1)
        ·rw[if_pos bJ]at H;have bU:=beq_iff_eq.mpr bJ;have jD:=bne_eq_false_iff_eq.mpr bJ;clear bJ
         (first|rw[bU]|(simp only[i64_w,i32_w];rw[bU])|skip)
         have H':=mk_ H;clear H;have:=cz2_ aI;have:=fz2_ aI;have:=cz2_ aK;have:=fz2_ aK
         go_wp2
         go_meet
         case rel=>exact⟨_,(((((rd_T74 l0_3 aC).f0).length:Int) != (((rd_T74 l1_3 aC).f0).length:Int))),eq_,H',⟨by have:=HJ2.out;have:=HK2.out;first|omega|exact Nat.le_refl _⟩,⟨fb_⟩,⟨fb_⟩,⟨pu_ aI⟩,⟨pu_ aK⟩,⟨bl_ HB⟩⟩
        ·rw[if_neg bJ]at H;have bU:=beq_eq_false_iff_ne.mpr bJ;have jD:=bne_iff_ne.mpr bJ
         (first|rw[bU]|(simp only[i64_w,i32_w];rw[bU])|skip)
         have H':=mk_ H;clear H;have:=cz2_ aI;have:=fz2_ aI;have:=cz2_ aK;have:=fz2_ aK
         go_wp2
         go_meet
         case rel=>exact⟨_,(true),eq_,H',⟨by have:=HJ2.out;have:=HK2.out;first|omega|exact Nat.le_refl _⟩,⟨fb_⟩,⟨fb_⟩,⟨pu_ aI⟩,⟨pu_ aK⟩,⟨bl_ HB⟩⟩
       case rest=>
        clear HC31;(try clear jA);(try clear jW);(try clear jX)
        (try clear bQ);(try clear bR);(try clear bS);(try clear bT);(try clear cF);(try clear cH);(try clear cG);(try clear cI);obtain⟨kq,iO,rfl,HA,HJ30,aA,aB,aI,aK,HB⟩:=hcut
        cases kq with
        |zero=>exact absurd HA.out (by simp[rillmeterref15_Equal.j2])
        |succ jE=>
         have H:=HA.out;clear HA;simp only[rillmeterref15_Equal.j2]at H
         by_cases cJ:iO=true
         ·subst cJ
          rw[if_pos rfl]at H;obtain rfl:=Option.some.inj H
          go_wp2
          go_ret;exact⟨er_,bl_ HB⟩
         ·replace cJ:=Bool.eq_false_iff.mpr cJ;subst cJ
          rw[if_neg (show¬(false=true)by decide)]at H;have H':=mk_ H;clear H
          go_wp2
          go_loopg [8] jE (fun kq v8 w'=>∃(aE:Int),v8=.int .i64 aE∧Aside0 (rillmeterref15_Equal.l1 kq aC aE a0_0 a0_1 a0_2 l0_3 a0_4 a0_5 l0_6 a1_0 a1_1 a1_2 l1_3 a1_4 a1_5 l1_6 ((rd_T74 l0_3 aC).f0) ((rd_T74 l0_3 aC).f1) ((rd_T74 l1_3 aC).f0) ((rd_T74 l1_3 aC).f1)=some r)∧Aside0 (kq≤jE)∧Aside0 (w'.heap[aD]? =some (.cells #[.int .u64 a0_0,.int .i64 a0_1,.int .i64 a0_2,(.slice (some aX) l0_3.length c0_3),.int .u64 a0_4,.int .i64 a0_5,(.slice A0_6 l0_6.length c0_6)] 32 (0,0)))∧Aside0 (w'.heap[aF]? =some (.cells #[.int .u64 a1_0,.int .i64 a1_1,.int .i64 a1_2,(.slice (some aY) l1_3.length c1_3),.int .u64 a1_4,.int .i64 a1_5,(.slice A1_6 l1_6.length c1_6)] 32 (0,0)))∧Aside0 (w'.heap[aG]? =some (.cells #[(.slice A590_0 ((rd_T74 l0_3 aC).f0).length c590_0),.int .i64 ((rd_T74 l0_3 aC).f1)] 74 (0,0)))∧Aside0 (w'.heap[aH]? =some (.cells #[(.slice A591_0 ((rd_T74 l1_3 aC).f0).length c591_0),.int .i64 ((rd_T74 l1_3 aC).f1)] 74 (0,0)))∧Aside0 (Below w.heap.size w w'))
          case atStart=>exact⟨(0),eq_,H',⟨Nat.le_refl _⟩,⟨bk_ aA⟩,⟨bk_ aB⟩,⟨bk_ aI⟩,⟨bk_ aK⟩,⟨bl_ HB⟩⟩
          case round=>
           clear H';(try clear jA);(try clear jW);(try clear jX);(try clear cJ)
           (try clear bQ);(try clear bR);(try clear bS);(try clear bT);(try clear cF);(try clear cH);(try clear cG);(try clear cI);obtain⟨aE,rfl,HA,HK4,aA,aB,aI,aK,HB⟩:=hrel
           cases gk with
           |zero=>exact absurd HA.out (by simp[rillmeterref15_Equal.l1])
           |succ k4=>
            have H:=HA.out;clear HA;simp only[rillmeterref15_Equal.l1]at H
            rcases ic_ H with⟨nH,h_⟩|⟨nH,h_⟩
            ·clear H;have H:=h_;clear h_;replace H:=it_ H;obtain⟨pZ,H⟩:=H;replace H:=it_ H;obtain⟨qA,H⟩:=H
             by_cases cC:(!((((rd_T77 ((rd_T74 l0_3 aC).f0) aE).f0).toList)==(((rd_T77 ((rd_T74 l1_3 aC).f0) aE).f0).toList)) || (!(((rd_T77 ((rd_T74 l0_3 aC).f0) aE).f1)==((rd_T77 ((rd_T74 l1_3 aC).f0) aE).f1)) || (!(((rd_T77 ((rd_T74 l0_3 aC).f0) aE).f2)==((rd_T77 ((rd_T74 l1_3 aC).f0) aE).f2)))))=true
             ·rw[if_pos cC]at H;have nI:(!((((rd_T77 ((rd_T74 l0_3 aC).f0) aE).f0).toList)==(((rd_T77 ((rd_T74 l1_3 aC).f0) aE).f0).toList)) || (!(((rd_T77 ((rd_T74 l0_3 aC).f0) aE).f1)==((rd_T77 ((rd_T74 l1_3 aC).f0) aE).f1)) || (!(((rd_T77 ((rd_T74 l0_3 aC).f0) aE).f2)==((rd_T77 ((rd_T74 l1_3 aC).f0) aE).f2)))))=true:=cC;clear cC;obtain rfl:=Option.some.inj H;have:=cz2_ aI;have:=fz2_ aI
              try go_wp2
              replace aA:=bd_ aA;replace aB:=bd_ aB;replace aI:=bd_ aI;replace aK:=bd_ aK;replace HB:=bw_ HB;obtain⟨bV,bW,aZ,e594,bD,bE,bF⟩:=aq_ (at_T77 jB.out aE);have cK:=bF;have cL:=bE;have cM:=bD
              cases e594;(try replace bD:=bt_ HB bD);(try replace bE:=bt_ HB bE);(try replace bF:=bt_ HB bF);obtain⟨bX,bY,bA,e595,bG,bH,bI⟩:=aq_ (at_T77 jC.out aE);have cN:=bI;have cO:=bH;have cP:=bG
              cases e595;(try replace bG:=bt_ HB bG);(try replace bH:=bt_ HB bH);(try replace bI:=bt_ HB bI)
              generalize hD_:wr.drew=qL at aA aB aI aK HB bD bE bF bG bH bI;refine sx_ (n:=11) (ds:=[]) hD_ (cw2_ aI (cw2_ aK (And.intro (bt_ HB cM) (And.intro (bt_ HB cL) (And.intro (bt_ HB cK) (And.intro (bt_ HB cP) (And.intro (bt_ HB cO) (bt_ HB cN)))))))) (fun hHeld=>?_);refine with_tabW rillmeterref15_Equal.tab12 rillmeterref15_Equal.bits12 (fun HT_ HW_=>?_);clear hD_;refine p1_ 0 1 ?_;refine p1_ 2 5 ?_;refine p1_ 5 37 ?_;refine p1_ 7 165 ?_;refine t1_ 1 167 ?_;refine p1_ 3 175 ?_;refine t1_ 4 191 ?_;refine t1_ 6 255 ?_;refine p1_ 8 511 ?_;refine t1_ 9 1023 ?_;refine p1_ 10 2047 ?_;refine dq_ HT_ ?_
              try go_wp2
              go_ret;exact⟨er_,bl_ HB⟩
             ·rw[if_neg cC]at H
              have nI:(!((((rd_T77 ((rd_T74 l0_3 aC).f0) aE).f0).toList)==(((rd_T77 ((rd_T74 l1_3 aC).f0) aE).f0).toList)) || (!(((rd_T77 ((rd_T74 l0_3 aC).f0) aE).f1)==((rd_T77 ((rd_T74 l1_3 aC).f0) aE).f1)) || (!(((rd_T77 ((rd_T74 l0_3 aC).f0) aE).f2)==((rd_T77 ((rd_T74 l1_3 aC).f0) aE).f2)))))=false:=by simpa using cC
              clear cC;have H':=mk_ H;clear H;have:=cz2_ aI;have:=fz2_ aI
              try go_wp2
              replace aA:=bd_ aA;replace aB:=bd_ aB;replace aI:=bd_ aI;replace aK:=bd_ aK;replace HB:=bw_ HB;obtain⟨bV,bW,aZ,e594,bD,bE,bF⟩:=aq_ (at_T77 jB.out aE);have cK:=bF;have cL:=bE;have cM:=bD
              cases e594;(try replace bD:=bt_ HB bD);(try replace bE:=bt_ HB bE);(try replace bF:=bt_ HB bF);obtain⟨bX,bY,bA,e595,bG,bH,bI⟩:=aq_ (at_T77 jC.out aE);have cN:=bI;have cO:=bH;have cP:=bG
              cases e595;(try replace bG:=bt_ HB bG);(try replace bH:=bt_ HB bH);(try replace bI:=bt_ HB bI)
              generalize hD_:wr.drew=qW at aA aB aI aK HB bD bE bF bG bH bI;refine sx_ (n:=11) (ds:=[]) hD_ (cw2_ aI (cw2_ aK (And.intro (bt_ HB cM) (And.intro (bt_ HB cL) (And.intro (bt_ HB cK) (And.intro (bt_ HB cP) (And.intro (bt_ HB cO) (bt_ HB cN)))))))) (fun hHeld=>?_);refine with_tabW rillmeterref15_Equal.tab12 rillmeterref15_Equal.bits12 (fun HT_ HW_=>?_);clear hD_;refine p1_ 0 1 ?_;refine p1_ 2 5 ?_;refine p1_ 5 37 ?_;refine p1_ 7 165 ?_;refine t1_ 1 167 ?_;refine p1_ 3 175 ?_;refine t1_ 4 191 ?_;refine t1_ 6 255 ?_;refine p1_ 8 511 ?_;refine t1_ 9 1023 ?_;refine p1_ 10 2047 ?_;refine dq_ HT_ ?_
              try go_wp2
              go_roundg k4
              case measure=>have:=HJ2.out;have:=HK2.out;have:=HJ30.out;have:=HK4.out;omega
              case rel=>exact⟨(wrap64 (aE+1)),eq_,H',⟨by have:=HJ2.out;have:=HK2.out;have:=HJ30.out;have:=HK4.out;omega⟩,⟨bk_ aA⟩,⟨bk_ aB⟩,⟨bk_ aI⟩,⟨bk_ aK⟩,⟨bl_ HB⟩⟩
            ·clear H;have H:=h_;clear h_;have H':=mk_ H;clear H;have:=cz2_ aI;have:=fz2_ aI
             go_wp2
             go_roundg k4
             case measure=>have:=HJ2.out;have:=HK2.out;have:=HJ30.out;have:=HK4.out;omega
             case rel=>exact⟨(wrap64 (aC+1)),eq_,H',⟨by have:=HJ2.out;have:=HK2.out;have:=HJ30.out;have:=HK4.out;omega⟩,⟨bk_ aA⟩,⟨bk_ aB⟩,⟨bl_ HB⟩⟩
      ·clear H;have H:=h_;clear h_;obtain rfl:=Option.some.inj H;have:=cz7_ aA;have:=fz7_ aA
       go_wp2
       go_ret;exact⟨er_,bl_ HB⟩
end
end Go.Proofs.Ytljmjjeghebdpaa.PElasticTurns
