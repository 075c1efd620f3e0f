/- Functions, each as a plain function, with the proof that a call comes to its answer. Condition of each: the arguments read as the data that it names, and the plain function has an answer. -/
import Derived.Test.YtljmjjeghebdpaaPElasticTurnsx0
import Derived.Test.YtljmjjeghebdpaaShort
import Derived.Lib.SliceRun
import Derived.Test.YtljmjjeghebdpaaPressMore
namespace Go.Proofs.Ytljmjjeghebdpaa.PElasticTurns
open Go.RowKit Go.Proofs.YtljmjjeghebdpaaW.PrintWords Go.Proofs.YtljmjjeghebdpaaW.PrintLast Go.Proofs.YtljmjjeghebdpaaW.PrintMore Go.Proofs.Ytljmjjeghebdpaa.Short Go.Proofs.Ytljmjjeghebdpaa.Press Go.Proofs.Ytljmjjeghebdpaa.PressMore
set_option maxHeartbeats 80000000
set_option maxRecDepth 100000
attribute [local go_sem] max2_int min2_int max_two min_two max_three min_three max_four min_four
set_option linter.unusedVariables false
set_option linter.unusedSimpArgs false
mutual
def rillmeterref11_Right.j0:Nat→Bool→Int→Int→List (List Int)→Option (Bool)
  |0,_,_,_,_=>none
  |k+1,a,b,c,d=>if a=true then(some false)else(rillmeterref11_Right.l0 k 0 b c d)
def rillmeterref11_Right.l0:Nat→Int→Int→Int→List (List Int)→Option (Bool)
  |0,_,_,_,_=>none
  |k+1,a,b,c,d=>if a<(d.length:Int)then(if 0≤a then(if((rd_L9 d a).length:Int)=0 then(rillmeterref11_Right.j2 k a ((rd_L9 d a).length:Int) true b c d)else(if((rd_L9 d a).length:Int)>256 then(rillmeterref11_Right.j2 k a ((rd_L9 d a).length:Int) true b c d)else(if 0<(d.length:Int)then(rillmeterref11_Right.j2 k a ((rd_L9 d a).length:Int) (((rd_L9 d a).length:Int) != ((rd_L9 d 0).length:Int)) b c d)else(none))))else(none))else(some true)
def rillmeterref11_Right.j2:Nat→Int→Int→Bool→Int→Int→List (List Int)→Option (Bool)
  |0,_,_,_,_,_,_=>none
  |k+1,a,b,c,d,e,f=>if c=true then(some false)else(rillmeterref11_Right.l1 k a b 0 d e f)
def rillmeterref11_Right.l1:Nat→Int→Int→Int→Int→Int→List (List Int)→Option (Bool)
  |0,_,_,_,_,_,_=>none
  |k+1,a,b,c,d,e,f=>if c<b then(if 0≤a then(if a<(f.length:Int)then(if 0≤c then(if c<((rd_L9 f a).length:Int)then(if(rd (rd_L9 f a) c)<0 then(some false)else(if(rd (rd_L9 f a) c)>e then(some false)else(rillmeterref11_Right.l1 k a b (wrap64 (c+1)) d e f)))else(none))else(none))else(none))else(none))else(rillmeterref11_Right.l0 k (wrap64 (a+1)) d e f)
end
def rillmeterref11_Right.f (k:Nat)(a0_0 a0_1:Int)(l0_2:List (List Int)):Option (Bool):=if a0_1<1 then(rillmeterref11_Right.j0 k true a0_0 a0_1 l0_2)else(if a0_1>1099511627776 then(rillmeterref11_Right.j0 k true a0_0 a0_1 l0_2)else(if(l0_2.length:Int)=0 then(rillmeterref11_Right.j0 k true a0_0 a0_1 l0_2)else(rillmeterref11_Right.j0 k (decide ((l0_2.length:Int)>7)) a0_0 a0_1 l0_2)))
theorem rillmeterref11_Right.mono_l:∀k,(∀y0 y1 y2 y3,LeO (rillmeterref11_Right.j0 k y0 y1 y2 y3) (rillmeterref11_Right.j0 (k+1) y0 y1 y2 y3))∧(∀y0 y1 y2 y3,LeO (rillmeterref11_Right.l0 k y0 y1 y2 y3) (rillmeterref11_Right.l0 (k+1) y0 y1 y2 y3))∧(∀y0 y1 y2 y3 y4 y5,LeO (rillmeterref11_Right.j2 k y0 y1 y2 y3 y4 y5) (rillmeterref11_Right.j2 (k+1) y0 y1 y2 y3 y4 y5))∧(∀y0 y1 y2 y3 y4 y5,LeO (rillmeterref11_Right.l1 k y0 y1 y2 y3 y4 y5) (rillmeterref11_Right.l1 (k+1) y0 y1 y2 y3 y4 y5))
  |0=>⟨fun _ _ _ _ r h=>by simp[rillmeterref11_Right.j0]at h,fun _ _ _ _ r h=>by simp[rillmeterref11_Right.l0]at h,fun _ _ _ _ _ _ r h=>by simp[rillmeterref11_Right.j2]at h,fun _ _ _ _ _ _ r h=>by simp[rillmeterref11_Right.l1]at h⟩
  |k+1=>by
    obtain⟨ih0,ih1,ih2,ih3⟩:=rillmeterref11_Right.mono_l k
    refine⟨?_,?_,?_,?_⟩<;>intros
    all_goals first|unfold rillmeterref11_Right.j0|unfold rillmeterref11_Right.l0|unfold rillmeterref11_Right.j2|unfold rillmeterref11_Right.l1
    all_goals repeat' with_reducible first|exact ih0 .. |exact ih1 .. |exact ih2 .. |exact ih3 .. |exact LeO.refl _|exact LeO.none _|refine LeO.ite ?_ ?_|refine LeO.bind ?_ (fun _=>?_)
theorem rillmeterref11_Right.mono:∀a0 a1 a2 k,LeO (rillmeterref11_Right.f k a0 a1 a2) (rillmeterref11_Right.f (k+1) a0 a1 a2):=by
  intro a0 a1 a2 k
  obtain⟨ih0,ih1,ih2,ih3⟩:=rillmeterref11_Right.mono_l k
  unfold rillmeterref11_Right.f
  repeat' with_reducible first|exact ih0 .. |exact ih1 .. |exact ih2 .. |exact ih3 .. |exact LeO.refl _|exact LeO.none _|refine LeO.ite ?_ ?_|refine LeO.bind ?_ (fun _=>?_)
theorem rillmeterref11_Right.calls (k:Nat)(a0_0 a0_1:Int)(A0_2:Option Addr)(c0_2:Nat)(l0_2:List (List Int))(r:Bool)(w:World)(hr0_2:Kd.C (Kd.slice 3 (Kd.int .i64)) w A0_2 l0_2.length l0_2)(hc0_2:l0_2.length≤c0_2)(h:rillmeterref11_Right.f k a0_0 a0_1 l0_2=some r):
    Calls Try.prog 39 #[.agg #[.int .u64 a0_0,.int .i64 a0_1,.slice A0_2 l0_2.length c0_2]] w fun e w'=>e=.returned (.bool r)∧Below w.heap.size w w':=by
 have hu30:=Try.underlying30;have aR:=mk_ hr0_2;have fI:=mk_ hc0_2;clear hr0_2 hc0_2;have HB:=mk_ (Below.refl w.heap.size w);have H:=h;clear h;unfold rillmeterref11_Right.f at H;have HC2:=mk_ H;clear H
 go_enter Try.func39,Try.ntmps39
 go_upto_region 1 with(first|(refine gq_ 1 ?_;(try(refine gate_guard (by rfl) ?_;dsimp only));refine bx_ 1 #[.int .u64 a0_0,.int .i64 a0_1,.slice A0_2 l0_2.length c0_2] 30 ?_;intro aC hg w3 hbox hb;have aA:=mk_ (hbox);have dE:=gx_ hg HB;have dF:=gx_ hg HB;replace HB:=bs_ HB hb;clear hb hbox hg))
 repeat(go_quiet (first|(refine gq_ 1 ?_;(try(refine gate_guard (by rfl) ?_;dsimp only));refine bx_ 1 #[.int .u64 a0_0,.int .i64 a0_1,.slice A0_2 l0_2.length c0_2] 30 ?_;intro aC hg w3 hbox hb;have aA:=mk_ (hbox);have dE:=gx_ hg HB;have dF:=gx_ hg HB;replace HB:=bs_ HB hb;clear hb hbox hg));go_upto_region 1 with(first|(refine gq_ 1 ?_;(try(refine gate_guard (by rfl) ?_;dsimp only));refine bx_ 1 #[.int .u64 a0_0,.int .i64 a0_1,.slice A0_2 l0_2.length c0_2] 30 ?_;intro aC hg w3 hbox hb;have aA:=mk_ (hbox);have dE:=gx_ hg HB;have dF:=gx_ hg HB;replace HB:=bs_ HB hb;clear hb hbox hg)))
 (try simp only[Act.put,sa_,sb_,sc_])
 go_cut [25] (fun fA wc=>∃(kq:Nat)(bR:Bool),fA=.bool bR∧Aside0 (rillmeterref11_Right.j0 kq bR a0_0 a0_1 l0_2=some r)∧Aside0 (kq≤k)∧Aside0 (wc.heap[aC]? =some (.cells #[.int .u64 a0_0,.int .i64 a0_1,(.slice A0_2 l0_2.length c0_2)] 30 (0,0)))∧Aside0 (Below w.heap.size w wc))
 case first=>
  have H:=HC2.out;clear HC2
  rcases ic_ H with⟨aM,h_⟩|⟨aM,h_⟩
  ·clear H;have H:=h_;clear h_
   (first|rw[aM]|(simp only[i64_w,i32_w];rw[aM])|skip)
   have H':=mk_ H;clear H;have:=cz3_ aA;have:=fz3_ aA
   go_wp2
   repeat(go_quiet (fail);try go_wp2)
   go_meet
   case rel=>exact⟨_,(true),eq_,H',⟨by first|omega|exact Nat.le_refl _⟩,⟨bk_ aA⟩,⟨bl_ HB⟩⟩
  ·clear H;have H:=h_;clear h_
   (first|rw[aM]|(simp only[i64_w,i32_w];rw[aM])|skip)
   by_cases c6:a0_1>1099511627776
   ·rw[if_pos c6]at H;have bF:decide (1099511627776<a0_1)=true:=decide_eq_true c6;clear c6;have H':=mk_ H;clear H;have:=cz3_ aA;have:=fz3_ aA
    go_wp2
    repeat(go_quiet (fail);try go_wp2)
    go_meet
    case rel=>exact⟨_,(true),eq_,H',⟨by first|omega|exact Nat.le_refl _⟩,⟨bk_ aA⟩,⟨bl_ HB⟩⟩
   ·rw[if_neg c6]at H;have bF:decide (1099511627776<a0_1)=false:=decide_eq_false c6;clear c6
    by_cases c8:(l0_2.length:Int)=0
    ·rw[if_pos c8]at H;have bG:=beq_iff_eq.mpr c8;have bH:=bne_eq_false_iff_eq.mpr c8;clear c8;have H':=mk_ H;clear H;have:=cz3_ aA;have:=fz3_ aA
     go_wp2
     repeat(go_quiet (fail);try go_wp2)
     go_meet
     case rel=>exact⟨_,(true),eq_,H',⟨by first|omega|exact Nat.le_refl _⟩,⟨bk_ aA⟩,⟨bl_ HB⟩⟩
    ·rw[if_neg c8]at H;have bG:=beq_eq_false_iff_ne.mpr c8;have bH:=bne_iff_ne.mpr c8
     have cK:¬(l0_2=[]):=fun h_=>c8 (by rw[h_];rfl)
     have H':=mk_ H;clear H;have:=cz3_ aA;have:=fz3_ aA
     go_wp2
     repeat(go_quiet (fail);try go_wp2)
     go_meet
     case rel=>exact⟨_,(decide ((l0_2.length:Int)>7)),eq_,H',⟨by first|omega|exact Nat.le_refl _⟩,⟨bk_ aA⟩,⟨bl_ HB⟩⟩
 case rest=>
  clear HC2;obtain⟨kq,bR,rfl,HA,HJ1,aA,HB⟩:=hcut
  cases kq with
  |zero=>exact absurd HA.out (by simp[rillmeterref11_Right.j0])
  |succ cW=>
   have H:=HA.out;clear HA;simp only[rillmeterref11_Right.j0]at H
   by_cases aS:bR=true
   ·subst aS
    rw[if_pos rfl]at H;obtain rfl:=Option.some.inj H
    go_wp2
    repeat(go_quiet (fail);try go_wp2)
    go_ret;exact⟨er_,bl_ HB⟩
   ·replace aS:=Bool.eq_false_iff.mpr aS;subst aS
    rw[if_neg (show¬(false=true)by decide)]at H;have H':=mk_ H;clear H
    go_wp2
    repeat(go_quiet (fail);try go_wp2)
    go_loopg [3] cW (fun kq v3 w'=>∃(aB:Int),v3=.int .i64 aB∧Aside0 (rillmeterref11_Right.l0 kq aB a0_0 a0_1 l0_2=some r)∧Aside0 (kq≤cW)∧Aside0 (w'.heap[aC]? =some (.cells #[.int .u64 a0_0,.int .i64 a0_1,(.slice A0_2 l0_2.length c0_2)] 30 (0,0)))∧Aside0 (Below w.heap.size w w'))
    case atStart=>exact⟨(0),eq_,H',⟨Nat.le_refl _⟩,⟨bk_ aA⟩,⟨bl_ HB⟩⟩
    case round=>
     clear H';(try clear aS);obtain⟨aB,rfl,HA,HK2,aA,HB⟩:=hrel
     cases gk with
     |zero=>exact absurd HA.out (by simp[rillmeterref11_Right.l0])
     |succ k2=>
      have H:=HA.out;clear HA;simp only[rillmeterref11_Right.l0]at H
      rcases ic_ H with⟨cX,h_⟩|⟨cX,h_⟩
      ·clear H;have H:=h_;clear h_;replace H:=it_ H;obtain⟨dG,H⟩:=H;have HC14:=mk_ H;clear H;have:=cz3_ aA;have:=fz3_ aA;obtain⟨bI,bJ,aF,A413_0,c413_0,e413,bK,dN,hi413_0⟩:=aq_ (at_L9 aR.out aB)
       cases e413;(try replace bK:=bt_ HB bK);have fJ:=mk_ hi413_0;have fK:=mk_ dN;clear hi413_0 dN
       go_upto_region 7 with(fail)
       repeat(go_quiet (fail);go_upto_region 7 with(fail))
       go_cut [53] (fun fB wc=>∃(kq:Nat)(cR:Bool),fB=.bool cR∧Aside0 (rillmeterref11_Right.j2 kq aB ((rd_L9 l0_2 aB).length:Int) cR a0_0 a0_1 l0_2=some r)∧Aside0 (kq≤k2)∧Aside0 (wc.heap[aC]? =some (.cells #[.int .u64 a0_0,.int .i64 a0_1,(.slice (some aF) l0_2.length c0_2)] 30 (0,0)))∧Aside0 (Below w.heap.size w wc))
       case first=>
        have H:=HC14.out;clear HC14
        by_cases aL:((rd_L9 l0_2 aB).length:Int)=0
        ·rw[if_pos aL]at H;have aT:=beq_iff_eq.mpr aL;have cY:=bne_eq_false_iff_eq.mpr aL;clear aL
         (first|rw[aT]|(simp only[i64_w,i32_w];rw[aT])|skip)
         have H':=mk_ H;clear H
         go_wp2
         repeat(go_quiet (fail);try go_wp2)
         go_meet
         case rel=>exact⟨_,(true),eq_,H',⟨by have:=HJ1.out;have:=HK2.out;first|omega|exact Nat.le_refl _⟩,⟨bk_ aA⟩,⟨bl_ HB⟩⟩
        ·rw[if_neg aL]at H;have aT:=beq_eq_false_iff_ne.mpr aL;have cY:=bne_iff_ne.mpr aL
         have dO:¬((rd_L9 l0_2 aB)=[]):=fun h_=>aL (by rw[h_];rfl)
         (first|rw[aT]|(simp only[i64_w,i32_w];rw[aT])|skip)
         by_cases aP:((rd_L9 l0_2 aB).length:Int)>256
         ·rw[if_pos aP]at H;have cZ:decide (256<((rd_L9 l0_2 aB).length:Int))=true:=decide_eq_true aP;have dA:decide (256<(rd_L9 l0_2 aB).length)=true:=decide_eq_true (by omega);clear aP;have H':=mk_ H;clear H
          go_wp2
          repeat(go_quiet (fail);try go_wp2)
          go_meet
          case rel=>exact⟨_,(true),eq_,H',⟨by have:=HJ1.out;have:=HK2.out;first|omega|exact Nat.le_refl _⟩,⟨bk_ aA⟩,⟨bl_ HB⟩⟩
         ·rw[if_neg aP]at H;have cZ:decide (256<((rd_L9 l0_2 aB).length:Int))=false:=decide_eq_false aP;have dA:decide (256<(rd_L9 l0_2 aB).length)=false:=decide_eq_false (by omega);clear aP;replace H:=ip_ H;obtain⟨bB,H⟩:=H;have dP:=decide_eq_true bB;have dQ:decide (0<l0_2.length)=true:=decide_eq_true (by omega);clear bB;have H':=mk_ H;clear H;have:=cz3_ aA;have:=fz3_ aA;have bL:0≤(0:Int):=(by omega);have bM:0<(l0_2.length:Int):=od_;obtain⟨fC,A414_0,c414_0,e414,aU,dX,hi414_0⟩:=at_L9 aR.out 0 bL bM;obtain rfl:aF=fC:=(by injection e414);have qi414:(0<l0_2.length)=True:=eq_true (by omega);(try rw[show((0:Int)).toNat=0 from rfl]at aU);(try rw[Addr.add_zero']at aU);(try replace aU:=bt_ HB aU);have fL:=mk_ hi414_0;have fM:=mk_ dX;clear hi414_0 dX;replace bL:=eq_true bL;replace bM:=eq_true bM
          go_wp2
          repeat(go_quiet (fail);try go_wp2)
          go_meet
          case rel=>exact⟨_,((((rd_L9 l0_2 aB).length:Int) != ((rd_L9 l0_2 0).length:Int))),eq_,H',⟨by have:=HJ1.out;have:=HK2.out;first|omega|exact Nat.le_refl _⟩,⟨bk_ aA⟩,⟨bl_ HB⟩⟩
       case rest=>
        clear HC14;(try clear aS);(try clear cX);(try clear dG);(try clear bK);(try clear bI);(try clear bJ);obtain⟨kq,cR,rfl,HA,HJ13,aA,HB⟩:=hcut
        cases kq with
        |zero=>exact absurd HA.out (by simp[rillmeterref11_Right.j2])
        |succ dB=>
         have H:=HA.out;clear HA;simp only[rillmeterref11_Right.j2]at H
         by_cases bN:cR=true
         ·subst bN
          rw[if_pos rfl]at H;obtain rfl:=Option.some.inj H
          go_wp2
          repeat(go_quiet (fail);try go_wp2)
          go_ret;exact⟨er_,bl_ HB⟩
         ·replace bN:=Bool.eq_false_iff.mpr bN;subst bN
          rw[if_neg (show¬(false=true)by decide)]at H;have H':=mk_ H;clear H
          go_wp2
          repeat(go_quiet (fail);try go_wp2)
          go_loopg [5] dB (fun kq v5 w'=>∃(aD:Int),v5=.int .i64 aD∧Aside0 (rillmeterref11_Right.l1 kq aB ((rd_L9 l0_2 aB).length:Int) aD a0_0 a0_1 l0_2=some r)∧Aside0 (kq≤dB)∧Aside0 (w'.heap[aC]? =some (.cells #[.int .u64 a0_0,.int .i64 a0_1,(.slice (some aF) l0_2.length c0_2)] 30 (0,0)))∧Aside0 (Below w.heap.size w w'))
          case atStart=>exact⟨(0),eq_,H',⟨Nat.le_refl _⟩,⟨bk_ aA⟩,⟨bl_ HB⟩⟩
          case round=>
           clear H';(try clear aS);(try clear cX);(try clear dG);(try clear bN);(try clear bK);(try clear bI);(try clear bJ)
           obtain⟨aD,rfl,HA,HK4,aA,HB⟩:=hrel
           cases gk with
           |zero=>exact absurd HA.out (by simp[rillmeterref11_Right.l1])
           |succ k4=>
            have H:=HA.out;clear HA;simp only[rillmeterref11_Right.l1]at H
            rcases ic_ H with⟨fD,h_⟩|⟨fD,h_⟩
            ·clear H;have H:=h_;clear h_;replace H:=it_ H;obtain⟨fN,H⟩:=H;replace H:=it_ H;obtain⟨fO,H⟩:=H;replace H:=it_ H;obtain⟨fP,H⟩:=H;replace H:=it_ H;obtain⟨fQ,H⟩:=H
             rcases ic_ H with⟨fE,h_⟩|⟨fE,h_⟩
             ·clear H;have H:=h_;clear h_;obtain rfl:=Option.some.inj H;have:=cz3_ aA;have:=fz3_ aA;obtain⟨aG,aH,bO,A415_0,c415_0,e415,aE,aQ,hi415_0⟩:=aq_ (at_L9 aR.out aB);obtain rfl:aF=bO:=(by injection e415);(try replace aE:=bt_ HB aE);have bP:=mk_ hi415_0;have dY:=mk_ aQ;clear hi415_0 aQ;have aI:0≤(aD:Int):=od_;have aJ:aD<((rd_L9 l0_2 aB).length:Int):=od_
              obtain⟨dZ,e416,aK⟩:=Kd.at_int bP.out aD aI aJ
              cases e416;(try replace aK:=bt_ HB aK);replace aI:=eq_true aI;replace aJ:=eq_true aJ
              go_wp2
              repeat(go_quiet (fail);try go_wp2)
              go_ret;exact⟨er_,bl_ HB⟩
             ·clear H;have H:=h_;clear h_
              by_cases bE:(rd (rd_L9 l0_2 aB) aD)>a0_1
              ·rw[if_pos bE]at H;have fF:decide (a0_1<(rd (rd_L9 l0_2 aB) aD))=true:=decide_eq_true bE;clear bE;obtain rfl:=Option.some.inj H;have:=cz3_ aA;have:=fz3_ aA;obtain⟨aG,aH,bO,A415_0,c415_0,e415,aE,aQ,hi415_0⟩:=aq_ (at_L9 aR.out aB);obtain rfl:aF=bO:=(by injection e415);(try replace aE:=bt_ HB aE);have bP:=mk_ hi415_0;have dY:=mk_ aQ;clear hi415_0 aQ;have aI:0≤(aD:Int):=od_;have aJ:aD<((rd_L9 l0_2 aB).length:Int):=od_
               obtain⟨dZ,e416,aK⟩:=Kd.at_int bP.out aD aI aJ
               cases e416;(try replace aK:=bt_ HB aK);replace aI:=eq_true aI;replace aJ:=eq_true aJ;obtain⟨aV,aW,dC,A417_0,c417_0,e417,aN,bQ,hi417_0⟩:=aq_ (at_L9 aR.out aB);obtain rfl:aF=dC:=(by injection e417);(try replace aN:=bt_ HB aN);have dD:=mk_ hi417_0;have fG:=mk_ bQ;clear hi417_0 bQ;have ea_:=Option.some.inj (aE.symm.trans aN)
               injection ea_ with ea_ en_ ec_
               subst ea_;subst ec_;clear en_;obtain⟨aX,aY,fH,e418,aZ⟩:=aq_ (Kd.at_int dD.out aD)
               cases e418;(try replace aZ:=bt_ HB aZ)
               go_wp2
               repeat(go_quiet (fail);try go_wp2)
               go_ret;exact⟨er_,bl_ HB⟩
              ·rw[if_neg bE]at H;have fF:decide (a0_1<(rd (rd_L9 l0_2 aB) aD))=false:=decide_eq_false bE;clear bE;have H':=mk_ H;clear H;have:=cz3_ aA;have:=fz3_ aA;obtain⟨aG,aH,bO,A415_0,c415_0,e415,aE,aQ,hi415_0⟩:=aq_ (at_L9 aR.out aB);obtain rfl:aF=bO:=(by injection e415);(try replace aE:=bt_ HB aE);have bP:=mk_ hi415_0;have dY:=mk_ aQ;clear hi415_0 aQ;have aI:0≤(aD:Int):=od_;have aJ:aD<((rd_L9 l0_2 aB).length:Int):=od_
               obtain⟨dZ,e416,aK⟩:=Kd.at_int bP.out aD aI aJ
               cases e416;(try replace aK:=bt_ HB aK);replace aI:=eq_true aI;replace aJ:=eq_true aJ;obtain⟨aV,aW,dC,A417_0,c417_0,e417,aN,bQ,hi417_0⟩:=aq_ (at_L9 aR.out aB);obtain rfl:aF=dC:=(by injection e417);(try replace aN:=bt_ HB aN);have dD:=mk_ hi417_0;have fG:=mk_ bQ;clear hi417_0 bQ;have ea_:=Option.some.inj (aE.symm.trans aN)
               injection ea_ with ea_ en_ ec_
               subst ea_;subst ec_;clear en_;obtain⟨aX,aY,fH,e418,aZ⟩:=aq_ (Kd.at_int dD.out aD)
               cases e418;(try replace aZ:=bt_ HB aZ)
               go_wp2
               repeat(go_quiet (fail);try go_wp2)
               go_roundg k4
               case measure=>have:=HJ1.out;have:=HK2.out;have:=HJ13.out;have:=HK4.out;omega
               case rel=>exact⟨(wrap64 (aD+1)),eq_,H',⟨by have:=HJ1.out;have:=HK2.out;have:=HJ13.out;have:=HK4.out;omega⟩,⟨bk_ aA⟩,⟨bl_ HB⟩⟩
            ·clear H;have H:=h_;clear h_;have H':=mk_ H;clear H
             go_wp2
             repeat(go_quiet (fail);try go_wp2)
             go_roundg k4
             case measure=>have:=HJ1.out;have:=HK2.out;have:=HJ13.out;have:=HK4.out;omega
             case rel=>exact⟨(wrap64 (aB+1)),eq_,H',⟨by have:=HJ1.out;have:=HK2.out;have:=HJ13.out;have:=HK4.out;omega⟩,⟨bk_ aA⟩,⟨bl_ HB⟩⟩
      ·clear H;have H:=h_;clear h_;obtain rfl:=Option.some.inj H;have:=cz3_ aA;have:=fz3_ aA
       go_wp2
       repeat(go_quiet (fail);try go_wp2)
       go_ret;exact⟨er_,bl_ HB⟩
def rillmeterref01_Mul.l0:Nat→Int→Int→Int→Option (Int)
  |0,_,_,_=>none
  |k+1,a,b,c=>if b>0 then(if(Int.tmod b 2)=1 then(rillmeterref01_Mul.l0 k (Int.tmod (IntKind.u64.wrap (a+a)) 2305843009213693951) (IntKind.u64.wrap (Int.tdiv b 2)) (Int.tmod (IntKind.u64.wrap (c+a)) 2305843009213693951))else(rillmeterref01_Mul.l0 k (Int.tmod (IntKind.u64.wrap (a+a)) 2305843009213693951) (IntKind.u64.wrap (Int.tdiv b 2)) c))else(some c)
def rillmeterref01_Mul.f (k:Nat)(a0 a1:Int):Option (Int):=rillmeterref01_Mul.l0 k (Int.tmod a0 2305843009213693951) (Int.tmod a1 2305843009213693951) 0
theorem rillmeterref01_Mul.mono_l:∀k,(∀y0 y1 y2,LeO (rillmeterref01_Mul.l0 k y0 y1 y2) (rillmeterref01_Mul.l0 (k+1) y0 y1 y2))
  |0=>fun _ _ _ r h=>by simp[rillmeterref01_Mul.l0]at h
  |k+1=>by
    have ih0:=rillmeterref01_Mul.mono_l k
    · intro y0 y1 y2
      unfold rillmeterref01_Mul.l0
      repeat' with_reducible first|exact ih0 .. |exact LeO.refl _|exact LeO.none _|refine LeO.ite ?_ ?_|refine LeO.bind ?_ (fun _=>?_)
theorem rillmeterref01_Mul.mono:∀a0 a1 k,LeO (rillmeterref01_Mul.f k a0 a1) (rillmeterref01_Mul.f (k+1) a0 a1):=by
  intro a0 a1 k
  have ih0:=rillmeterref01_Mul.mono_l k
  unfold rillmeterref01_Mul.f
  repeat' with_reducible first|exact ih0 .. |exact LeO.refl _|exact LeO.none _|refine LeO.ite ?_ ?_|refine LeO.bind ?_ (fun _=>?_)
theorem rillmeterref01_Mul.calls (k:Nat)(a0 a1 r:Int)(w:World)(h:rillmeterref01_Mul.f k a0 a1=some r):
    Calls Try.prog 62 #[.int .u64 a0,.int .u64 a1] w fun e w'=>e=.returned (.int .u64 r)∧Drawn0 w w':=by
 have H:=h;clear h;unfold rillmeterref01_Mul.f at H;have H':=mk_ H;clear H
 go_enter Try.func62,Try.ntmps62
 go_wp2
 go_loopg [0,1,5] k (fun kq v0 v1 v5 w'=>∃(aB aA aC:Int),v0=.int .u64 aB∧v1=.int .u64 aA∧v5=.int .u64 aC∧Aside0 (rillmeterref01_Mul.l0 kq aB aA aC=some r)∧Aside0 (kq≤k)∧Drawn0 w w')
 case atStart=>exact⟨(Int.tmod a0 2305843009213693951),(Int.tmod a1 2305843009213693951),(0),eq_,eq_,eq_,H',⟨Nat.le_refl _⟩,by repeat(first|exact Drawn0.refl _|apply Drawn0.step)⟩
 case round=>
  clear H';obtain⟨aB,aA,aC,rfl,rfl,rfl,HA,HK1,⟨m1,rfl⟩⟩:=hrel
  cases gk with
  |zero=>exact absurd HA.out (by simp[rillmeterref01_Mul.l0])
  |succ k1=>
   have H:=HA.out;clear HA;simp only[rillmeterref01_Mul.l0]at H
   by_cases c3:aA>0
   ·rw[if_pos c3]at H;have aD:decide (0<aA)=true:=decide_eq_true c3;clear c3
    by_cases c4:(Int.tmod aA 2)=1
    ·rw[if_pos c4]at H;have aE:=beq_iff_eq.mpr c4;have aF:=bne_eq_false_iff_eq.mpr c4;clear c4;have H':=mk_ H;clear H
     go_wp2
     go_roundg k1
     case measure=>have:=HK1.out;omega
     case rel=>exact⟨(Int.tmod (IntKind.u64.wrap (aB+aB)) 2305843009213693951),(IntKind.u64.wrap (Int.tdiv aA 2)),(Int.tmod (IntKind.u64.wrap (aC+aB)) 2305843009213693951),eq_,eq_,eq_,H',⟨by have:=HK1.out;omega⟩,by repeat(first|exact Drawn0.refl _|apply Drawn0.step)⟩
    ·rw[if_neg c4]at H;have aE:=beq_eq_false_iff_ne.mpr c4;have aF:=bne_iff_ne.mpr c4;have H':=mk_ H;clear H
     go_wp2
     go_roundg k1
     case measure=>have:=HK1.out;omega
     case rel=>exact⟨(Int.tmod (IntKind.u64.wrap (aB+aB)) 2305843009213693951),(IntKind.u64.wrap (Int.tdiv aA 2)),(aC),eq_,eq_,eq_,H',⟨by have:=HK1.out;omega⟩,by repeat(first|exact Drawn0.refl _|apply Drawn0.step)⟩
   ·rw[if_neg c3]at H;have aD:decide (0<aA)=false:=decide_eq_false c3;clear c3;obtain rfl:=Option.some.inj H
    go_wp2
    go_ret;exact⟨by first|rfl|(simp;done)|(simp[*];done),by repeat(first|exact Drawn0.refl _|apply Drawn0.step)⟩
def rillmeterref01_Add.f (a0 a1:Int):Option (Int):=some (Int.tmod (IntKind.u64.wrap ((Int.tmod a0 2305843009213693951)+(Int.tmod a1 2305843009213693951))) 2305843009213693951)
theorem rillmeterref01_Add.calls (a0 a1 r:Int)(w:World)(h:rillmeterref01_Add.f a0 a1=some r):
    Calls Try.prog 63 #[.int .u64 a0,.int .u64 a1] w fun e w'=>e=.returned (.int .u64 r)∧Drawn0 w w':=by
 have H:=h;clear h;unfold rillmeterref01_Add.f at H;obtain rfl:=Option.some.inj H
 go_enter Try.func63,Try.ntmps63
 go_wp2
 go_ret;exact⟨by first|rfl|(simp;done)|(simp[*];done),by repeat(first|exact Drawn0.refl _|apply Drawn0.step)⟩
def rillmeterref01_Pow.f:Nat→Int→Int→Option (Int)
  |0,_,_=>none
  |k+1,a0,a1=>if a1=0 then(some 1)else((rillmeterref01_Pow.f k a0 (IntKind.u64.wrap (Int.tdiv a1 2))).bind fun t419=>((rillmeterref01_Mul.f k t419 t419).bind fun t420=>(if(Int.tmod a1 2)=1 then((rillmeterref01_Mul.f k t420 a0).bind fun t421=>(some t421))else(some t420))))
theorem rillmeterref01_Pow.mono_l:∀k,(∀y0 y1,LeO (rillmeterref01_Pow.f k y0 y1) (rillmeterref01_Pow.f (k+1) y0 y1))
  |0=>fun _ _ r h=>by simp[rillmeterref01_Pow.f]at h
  |k+1=>by
    have ih0:=rillmeterref01_Pow.mono_l k
    · intro y0 y1
      unfold rillmeterref01_Pow.f
      repeat' with_reducible first|exact ih0 .. |exact rillmeterref01_Mul.mono .. |exact LeO.refl _|exact LeO.none _|refine LeO.ite ?_ ?_|refine LeO.bind ?_ (fun _=>?_)
theorem rillmeterref01_Pow.mono:∀a0 a1 k,LeO (rillmeterref01_Pow.f k a0 a1) (rillmeterref01_Pow.f (k+1) a0 a1):=by
  intro a0 a1 k
  have ih0:=rillmeterref01_Pow.mono_l k
  exact ih0 a0 a1
theorem rillmeterref01_Pow.calls (k:Nat):∀(a0 a1 r:Int)(w:World)(h:rillmeterref01_Pow.f k a0 a1=some r),
    Calls Try.prog 64 #[.int .u64 a0,.int .u64 a1] w fun e w'=>e=.returned (.int .u64 r)∧Drawn0 w w':=by
 induction k using Nat.strongRecOn with
 |_ k ih=>
 intro a0 a1 r w h
 cases k with
 |zero=>exact absurd h (by simp[rillmeterref01_Pow.f])
 |succ k=>
 simp only[rillmeterref01_Pow.f]at h;have H:(if a1=0 then(some 1)else((rillmeterref01_Pow.f k a0 (IntKind.u64.wrap (Int.tdiv a1 2))).bind fun aA=>((rillmeterref01_Mul.f k aA aA).bind fun aB=>(if(Int.tmod a1 2)=1 then((rillmeterref01_Mul.f k aB a0).bind fun aC=>(some aC))else(some aB)))))=some r:=h;clear h
 by_cases c3:a1=0
 ·rw[if_pos c3]at H;have aG:=beq_iff_eq.mpr c3;have aH:=bne_eq_false_iff_eq.mpr c3;clear c3;obtain rfl:=Option.some.inj H
  go_enter Try.func64,Try.ntmps64
  go_wp2
  go_ret;exact⟨by first|rfl|(simp;done)|(simp[*];done),by repeat(first|exact Drawn0.refl _|apply Drawn0.step)⟩
 ·rw[if_neg c3]at H;have aG:=beq_eq_false_iff_ne.mpr c3;have aH:=bne_iff_ne.mpr c3;replace H:=bi_ H;obtain⟨aA,A4,H⟩:=H;replace H:=bi_ H;obtain⟨aB,A5,H⟩:=H
  by_cases c6:(Int.tmod a1 2)=1
  ·rw[if_pos c6]at H;have aI:=beq_iff_eq.mpr c6;have aJ:=bne_eq_false_iff_eq.mpr c6;clear c6;replace H:=bi_ H;obtain⟨aC,A7,H⟩:=H;obtain rfl:=Option.some.inj H
   go_enter Try.func64,Try.ntmps64
   go_wp2_with (first|(refine gk_ 64 ?_;refine gd_ (some 11) Try.func64 (ih k (by omega) a0 (IntKind.u64.wrap (Int.tdiv a1 2)) aA _ A4.out) ?_;rintro w' ⟨nd,rfl⟩)|(refine gk_ 62 ?_;refine gd_ (some 14) Try.func62 (rillmeterref01_Mul.calls k aA aA aB _ A5.out) ?_;rintro w' ⟨nd,rfl⟩)|(refine gk_ 62 ?_;refine gd_ (some 20) Try.func62 (rillmeterref01_Mul.calls k aB a0 aC _ A7.out) ?_;rintro w' ⟨nd,rfl⟩))
   go_ret;exact⟨by first|rfl|(simp;done)|(simp[*];done),by repeat(first|exact Drawn0.refl _|apply Drawn0.step)⟩
  ·rw[if_neg c6]at H;have aI:=beq_eq_false_iff_ne.mpr c6;have aJ:=bne_iff_ne.mpr c6;obtain rfl:=Option.some.inj H
   go_enter Try.func64,Try.ntmps64
   go_wp2_with (first|(refine gk_ 64 ?_;refine gd_ (some 11) Try.func64 (ih k (by omega) a0 (IntKind.u64.wrap (Int.tdiv a1 2)) aA _ A4.out) ?_;rintro w' ⟨nd,rfl⟩)|(refine gk_ 62 ?_;refine gd_ (some 14) Try.func62 (rillmeterref01_Mul.calls k aA aA aB _ A5.out) ?_;rintro w' ⟨nd,rfl⟩))
   go_ret;exact⟨by first|rfl|(simp;done)|(simp[*];done),by repeat(first|exact Drawn0.refl _|apply Drawn0.step)⟩
def rillmeterref02_Row.j0:Nat→Int→Int→Option (Int)
  |0,_,_=>none
  |k+1,a,b=>(rillmeterref01_Add.f a 3).bind fun t422=>((rillmeterref01_Add.f (IntKind.u64.wrap (b)) 2).bind fun t423=>((rillmeterref01_Mul.f k t422 t423).bind fun t424=>((rillmeterref01_Add.f t424 5).bind fun t425=>((rillmeterref01_Pow.f k t425 2).bind fun t426=>(some t426)))))
def rillmeterref02_Row.f (k:Nat)(a0 a1:Int):Option (Int):=if a1<0 then(rillmeterref02_Row.j0 k a0 0)else(rillmeterref02_Row.j0 k a0 a1)
theorem rillmeterref02_Row.mono_l:∀k,(∀y0 y1,LeO (rillmeterref02_Row.j0 k y0 y1) (rillmeterref02_Row.j0 (k+1) y0 y1))
  |0=>fun _ _ r h=>by simp[rillmeterref02_Row.j0]at h
  |k+1=>by
    have ih0:=rillmeterref02_Row.mono_l k
    · intro y0 y1
      unfold rillmeterref02_Row.j0
      repeat' with_reducible first|exact ih0 .. |exact rillmeterref01_Mul.mono .. |exact rillmeterref01_Pow.mono .. |exact LeO.refl _|exact LeO.none _|refine LeO.ite ?_ ?_|refine LeO.bind ?_ (fun _=>?_)
theorem rillmeterref02_Row.mono:∀a0 a1 k,LeO (rillmeterref02_Row.f k a0 a1) (rillmeterref02_Row.f (k+1) a0 a1):=by
  intro a0 a1 k
  have ih0:=rillmeterref02_Row.mono_l k
  unfold rillmeterref02_Row.f
  repeat' with_reducible first|exact ih0 .. |exact rillmeterref01_Mul.mono .. |exact rillmeterref01_Pow.mono .. |exact LeO.refl _|exact LeO.none _|refine LeO.ite ?_ ?_|refine LeO.bind ?_ (fun _=>?_)
theorem rillmeterref02_Row.calls (k:Nat)(a0 a1 r:Int)(w:World)(h:rillmeterref02_Row.f k a0 a1=some r):
    Calls Try.prog 40 #[.int .u64 a0,.int .i64 a1] w fun e w'=>e=.returned (.int .u64 r)∧Drawn0 w w':=by
 have H:=h;clear h;unfold rillmeterref02_Row.f at H;have HC3:=mk_ H;clear H
 go_enter Try.func40,Try.ntmps40
 go_upto_if 7 with(fail)
 go_cut [1] (fun v1 wc=>∃(kq:Nat)(aE:Int),v1=.int .i64 aE∧Aside0 (rillmeterref02_Row.j0 kq a0 aE=some r)∧Aside0 (kq≤k)∧Drawn0 w wc)
 case first=>
  have H:=HC3.out;clear HC3
  rcases ic_ H with⟨aF,h_⟩|⟨aF,h_⟩
  ·clear H;have H:=h_;clear h_
   (first|rw[aF]|(simp only[i64_w,i32_w];rw[aF])|skip)
   have H':=mk_ H;clear H
   go_wp2
   go_meet
   case rel=>exact⟨_,(0),eq_,H',⟨by first|omega|exact Nat.le_refl _⟩,by repeat(first|exact Drawn0.refl _|apply Drawn0.step)⟩
  ·clear H;have H:=h_;clear h_
   (first|rw[aF]|(simp only[i64_w,i32_w];rw[aF])|skip)
   have H':=mk_ H;clear H
   go_wp2
   go_meet
   case rel=>exact⟨_,(a1),eq_,H',⟨by first|omega|exact Nat.le_refl _⟩,by repeat(first|exact Drawn0.refl _|apply Drawn0.step)⟩
 case rest=>
  clear HC3;obtain⟨kq,aE,rfl,HA,HJ2,⟨mc2,rfl⟩⟩:=hcut
  cases kq with
  |zero=>exact absurd HA.out (by simp[rillmeterref02_Row.j0])
  |succ aC=>
   have H:=HA.out;clear HA;simp only[rillmeterref02_Row.j0]at H;replace H:=bi_ H;obtain⟨aH,A5,H⟩:=H;replace H:=bi_ H;obtain⟨aG,A6,H⟩:=H;replace H:=bi_ H;obtain⟨aD,A7,H⟩:=H;replace H:=bi_ H;obtain⟨aA,A8,H⟩:=H;replace H:=bi_ H;obtain⟨aB,A9,H⟩:=H;obtain rfl:=Option.some.inj H
   go_wp2_with (first|(refine gk_ 63 ?_;refine gd_ (some 9) Try.func63 (rillmeterref01_Add.calls a0 3 aH _ A5.out) ?_;rintro w' ⟨nd,rfl⟩)|(refine gk_ 63 ?_;refine gd_ (some 12) Try.func63 (rillmeterref01_Add.calls (IntKind.u64.wrap (aE)) 2 aG _ A6.out) ?_;rintro w' ⟨nd,rfl⟩)|(refine gk_ 62 ?_;refine gd_ (some 13) Try.func62 (rillmeterref01_Mul.calls aC aH aG aD _ A7.out) ?_;rintro w' ⟨nd,rfl⟩)|(refine gk_ 63 ?_;refine gd_ (some 15) Try.func63 (rillmeterref01_Add.calls aD 5 aA _ A8.out) ?_;rintro w' ⟨nd,rfl⟩)|(refine gk_ 64 ?_;refine gd_ (some 16) Try.func64 (rillmeterref01_Pow.calls aC aA 2 aB _ A9.out) ?_;rintro w' ⟨nd,rfl⟩))
   go_ret;exact⟨by first|rfl|(simp;done)|(simp[*];done),by repeat(first|exact Drawn0.refl _|apply Drawn0.step)⟩
def rillmeterref15_At.l0:Nat→ByteArray→Int→List (S77)→Int→Option (Int)
  |0,_,_,_,_=>none
  |k+1,a,b,c,d=>if b<(c.length:Int)then(if 0≤b then(if((rd_T77 c b).f0).toList=a.toList then(some b)else(rillmeterref15_At.l0 k a (wrap64 (b+1)) c d))else(none))else(some (-1))
def rillmeterref15_At.f (k:Nat)(l0_0:List (S77))(a0_1:Int)(a1:ByteArray):Option (Int):=rillmeterref15_At.l0 k a1 0 l0_0 a0_1
theorem rillmeterref15_At.mono_l:∀k,(∀y0 y1 y2 y3,LeO (rillmeterref15_At.l0 k y0 y1 y2 y3) (rillmeterref15_At.l0 (k+1) y0 y1 y2 y3))
  |0=>fun _ _ _ _ r h=>by simp[rillmeterref15_At.l0]at h
  |k+1=>by
    have ih0:=rillmeterref15_At.mono_l k
    · intro y0 y1 y2 y3
      unfold rillmeterref15_At.l0
      repeat' with_reducible first|exact ih0 .. |exact LeO.refl _|exact LeO.none _|refine LeO.ite ?_ ?_|refine LeO.bind ?_ (fun _=>?_)
theorem rillmeterref15_At.mono:∀a0 a1 a2 k,LeO (rillmeterref15_At.f k a0 a1 a2) (rillmeterref15_At.f (k+1) a0 a1 a2):=by
  intro a0 a1 a2 k
  have ih0:=rillmeterref15_At.mono_l k
  unfold rillmeterref15_At.f
  repeat' with_reducible first|exact ih0 .. |exact LeO.refl _|exact LeO.none _|refine LeO.ite ?_ ?_|refine LeO.bind ?_ (fun _=>?_)
theorem rillmeterref15_At.calls (k:Nat)(A0_0:Option Addr)(c0_0:Nat)(l0_0:List (S77))(a0_1:Int)(a1:ByteArray)(r:Int)(w:World)(hr0_0:Kd.C k77 w A0_0 l0_0.length l0_0)(hc0_0:l0_0.length≤c0_0)(h:rillmeterref15_At.f k l0_0 a0_1 a1=some r):
    Calls Try.prog 41 #[.agg #[.slice A0_0 l0_0.length c0_0,.int .i64 a0_1],.string a1] w fun e w'=>e=.returned (.int .i64 r)∧Below w.heap.size w w':=by
 have hu74:=Try.underlying74;have aI:=mk_ hr0_0;have aN:=mk_ hc0_0;clear hr0_0 hc0_0;have HB:=mk_ (Below.refl w.heap.size w);have H:=h;clear h;unfold rillmeterref15_At.f at H;have H':=mk_ H;clear H
 go_enter Try.func41,Try.ntmps41
 go_wp2_with (first|(refine gq_ 2 ?_;refine bx_ 2 #[.slice A0_0 l0_0.length c0_0,.int .i64 a0_1] 74 ?_;intro aC hg w3 hbox hb;have aB:=mk_ (hbox);have aO:=gx_ hg HB;have aP:=gx_ hg HB;replace HB:=bs_ HB hb;clear hb hbox hg))
 go_loopg [5] k (fun kq v5 w'=>∃(aA:Int),v5=.int .i64 aA∧Aside0 (rillmeterref15_At.l0 kq a1 aA l0_0 a0_1=some r)∧Aside0 (kq≤k)∧Aside0 (w'.heap[aC]? =some (.cells #[(.slice A0_0 l0_0.length c0_0),.int .i64 a0_1] 74 (0,0)))∧Aside0 (Below w.heap.size w w'))
 case atStart=>exact⟨(0),eq_,H',⟨Nat.le_refl _⟩,⟨bk_ aB⟩,⟨bl_ HB⟩⟩
 case round=>
  clear H';obtain⟨aA,rfl,HA,HK1,aB,HB⟩:=hrel
  cases gk with
  |zero=>exact absurd HA.out (by simp[rillmeterref15_At.l0])
  |succ k1=>
   have H:=HA.out;clear HA;simp only[rillmeterref15_At.l0]at H
   rcases ic_ H with⟨aJ,h_⟩|⟨aJ,h_⟩
   ·clear H;have H:=h_;clear h_;replace H:=it_ H;obtain⟨aQ,H⟩:=H
    by_cases c6:((rd_T77 l0_0 aA).f0).toList=a1.toList
    ·rw[if_pos c6]at H;have aK:=beq_iff_eq.mpr c6;have aL:=bne_eq_false_iff_eq.mpr c6;clear c6;obtain rfl:=Option.some.inj H;have:=cz2_ aB;have:=fz2_ aB;obtain⟨aD,aE,aM,e428,aF,aG,aH⟩:=aq_ (at_T77 aI.out aA)
     cases e428;(try replace aF:=bt_ HB aF);(try replace aG:=bt_ HB aG);(try replace aH:=bt_ HB aH)
     go_wp2
     go_ret;exact⟨er_,bl_ HB⟩
    ·rw[if_neg c6]at H;have aK:=beq_eq_false_iff_ne.mpr c6;have aL:=bne_iff_ne.mpr c6;have H':=mk_ H;clear H;have:=cz2_ aB;have:=fz2_ aB;obtain⟨aD,aE,aM,e428,aF,aG,aH⟩:=aq_ (at_T77 aI.out aA)
     cases e428;(try replace aF:=bt_ HB aF);(try replace aG:=bt_ HB aG);(try replace aH:=bt_ HB aH)
     go_wp2
     go_roundg k1
     case measure=>have:=HK1.out;omega
     case rel=>exact⟨(wrap64 (aA+1)),eq_,H',⟨by have:=HK1.out;omega⟩,⟨bk_ aB⟩,⟨bl_ HB⟩⟩
   ·clear H;have H:=h_;clear h_;obtain rfl:=Option.some.inj H;have:=cz2_ aB;have:=fz2_ aB
    go_wp2
    go_ret;exact⟨er_,bl_ HB⟩
mutual
def rillmeterref15_Right.j0:Nat→Bool→Int→Int→Int→List (S74)→Int→Int→List (List Int)→Option (Bool)
  |0,_,_,_,_,_,_,_,_=>none
  |k+1,a,b,c,d,e,g,h,i=>if a=true then(some false)else((rillmeterref11_Right.f k g h i).bind fun t430=>(if t430=true then(if h=255 then((rillmeterref02_Row.f k b 1).bind fun t431=>(rillmeterref15_Right.j1 k (g != t431) b c d e g h i))else(rillmeterref15_Right.j1 k true b c d e g h i))else(rillmeterref15_Right.j1 k true b c d e g h i)))
def rillmeterref15_Right.j1:Nat→Bool→Int→Int→Int→List (S74)→Int→Int→List (List Int)→Option (Bool)
  |0,_,_,_,_,_,_,_,_=>none
  |k+1,a,b,c,d,e,f,g,h=>if a=true then(some false)else(rillmeterref15_Right.l0 k 0 b c d e f g h)
def rillmeterref15_Right.l0:Nat→Int→Int→Int→Int→List (S74)→Int→Int→List (List Int)→Option (Bool)
  |0,_,_,_,_,_,_,_,_=>none
  |k+1,a,b,c,d,e,f,g,h=>if a<(e.length:Int)then(if 0≤a then(if(((rd_T74 e a).f0).length:Int)>c then(rillmeterref15_Right.j3 k a true b c d e f g h ((rd_T74 e a).f0) ((rd_T74 e a).f1))else(if((rd_T74 e a).f1)<0 then(rillmeterref15_Right.j3 k a true b c d e f g h ((rd_T74 e a).f0) ((rd_T74 e a).f1))else(rillmeterref15_Right.j3 k a (decide (((rd_T74 e a).f1)>1099511627776)) b c d e f g h ((rd_T74 e a).f0) ((rd_T74 e a).f1))))else(none))else(some true)
def rillmeterref15_Right.j3:Nat→Int→Bool→Int→Int→Int→List (S74)→Int→Int→List (List Int)→List (S77)→Int→Option (Bool)
  |0,_,_,_,_,_,_,_,_,_,_,_=>none
  |k+1,a,b,c,d,e,f,g,h,i,j,l=>if b=true then(some false)else(rillmeterref15_Right.l1 k a 0 c d e f g h i j l)
def rillmeterref15_Right.l1:Nat→Int→Int→Int→Int→Int→List (S74)→Int→Int→List (List Int)→List (S77)→Int→Option (Bool)
  |0,_,_,_,_,_,_,_,_,_,_,_=>none
  |k+1,a,b,c,d,e,g,h,i,j,l,m=>if b<(l.length:Int)then(if 0≤b then(if((rd_T77 l b).f1)<1 then(some false)else(if((rd_T77 l b).f1)>1099511627776 then(some false)else((rillmeterref15_At.f k l m ((rd_T77 l b).f0)).bind fun t437=>(if t437=b then(rillmeterref15_Right.l1 k a (wrap64 (b+1)) c d e g h i j l m)else(some false)))))else(none))else(rillmeterref15_Right.l0 k (wrap64 (a+1)) c d e g h i j)
end
def rillmeterref15_Right.f (k:Nat)(a0_0 a0_1 a0_2:Int)(l0_3:List (S74))(a0_4 a0_5:Int)(l0_6:List (List Int)):Option (Bool):=if a0_1<1 then(rillmeterref15_Right.j0 k true a0_0 a0_1 a0_2 l0_3 a0_4 a0_5 l0_6)else(if a0_1>8 then(rillmeterref15_Right.j0 k true a0_0 a0_1 a0_2 l0_3 a0_4 a0_5 l0_6)else(if a0_2<1 then(rillmeterref15_Right.j0 k true a0_0 a0_1 a0_2 l0_3 a0_4 a0_5 l0_6)else(if a0_2>64 then(rillmeterref15_Right.j0 k true a0_0 a0_1 a0_2 l0_3 a0_4 a0_5 l0_6)else(if(l0_3.length:Int)=0 then(rillmeterref15_Right.j0 k true a0_0 a0_1 a0_2 l0_3 a0_4 a0_5 l0_6)else(rillmeterref15_Right.j0 k (decide ((l0_3.length:Int)>256)) a0_0 a0_1 a0_2 l0_3 a0_4 a0_5 l0_6)))))
theorem rillmeterref15_Right.mono_l:∀k,(∀y0 y1 y2 y3 y4 y5 y6 y7,LeO (rillmeterref15_Right.j0 k y0 y1 y2 y3 y4 y5 y6 y7) (rillmeterref15_Right.j0 (k+1) y0 y1 y2 y3 y4 y5 y6 y7))∧(∀y0 y1 y2 y3 y4 y5 y6 y7,LeO (rillmeterref15_Right.j1 k y0 y1 y2 y3 y4 y5 y6 y7) (rillmeterref15_Right.j1 (k+1) y0 y1 y2 y3 y4 y5 y6 y7))∧(∀y0 y1 y2 y3 y4 y5 y6 y7,LeO (rillmeterref15_Right.l0 k y0 y1 y2 y3 y4 y5 y6 y7) (rillmeterref15_Right.l0 (k+1) y0 y1 y2 y3 y4 y5 y6 y7))∧(∀y0 y1 y2 y3 y4 y5 y6 y7 y8 y9 y10,LeO (rillmeterref15_Right.j3 k y0 y1 y2 y3 y4 y5 y6 y7 y8 y9 y10) (rillmeterref15_Right.j3 (k+1) y0 y1 y2 y3 y4 y5 y6 y7 y8 y9 y10))∧(∀y0 y1 y2 y3 y4 y5 y6 y7 y8 y9 y10,LeO (rillmeterref15_Right.l1 k y0 y1 y2 y3 y4 y5 y6 y7 y8 y9 y10) (rillmeterref15_Right.l1 (k+1) y0 y1 y2 y3 y4 y5 y6 y7 y8 y9 y10))
  |0=>⟨fun _ _ _ _ _ _ _ _ r h=>by simp[rillmeterref15_Right.j0]at h,fun _ _ _ _ _ _ _ _ r h=>by simp[rillmeterref15_Right.j1]at h,fun _ _ _ _ _ _ _ _ r h=>by simp[rillmeterref15_Right.l0]at h,fun _ _ _ _ _ _ _ _ _ _ _ r h=>by simp[rillmeterref15_Right.j3]at h,fun _ _ _ _ _ _ _ _ _ _ _ r h=>by simp[rillmeterref15_Right.l1]at h⟩
  |k+1=>by
    obtain⟨ih0,ih1,ih2,ih3,ih4⟩:=rillmeterref15_Right.mono_l k
    refine⟨?_,?_,?_,?_,?_⟩<;>intros
    all_goals first|unfold rillmeterref15_Right.j0|unfold rillmeterref15_Right.j1|unfold rillmeterref15_Right.l0|unfold rillmeterref15_Right.j3|unfold rillmeterref15_Right.l1
    all_goals repeat' with_reducible first|exact ih0 .. |exact ih1 .. |exact ih2 .. |exact ih3 .. |exact ih4 .. |exact rillmeterref02_Row.mono .. |exact rillmeterref11_Right.mono .. |exact rillmeterref15_At.mono .. |exact LeO.refl _|exact LeO.none _|refine LeO.ite ?_ ?_|refine LeO.bind ?_ (fun _=>?_)
theorem rillmeterref15_Right.mono:∀a0 a1 a2 a3 a4 a5 a6 k,LeO (rillmeterref15_Right.f k a0 a1 a2 a3 a4 a5 a6) (rillmeterref15_Right.f (k+1) a0 a1 a2 a3 a4 a5 a6):=by
  intro a0 a1 a2 a3 a4 a5 a6 k
  obtain⟨ih0,ih1,ih2,ih3,ih4⟩:=rillmeterref15_Right.mono_l k
  unfold rillmeterref15_Right.f
  repeat' with_reducible first|exact ih0 .. |exact ih1 .. |exact ih2 .. |exact ih3 .. |exact ih4 .. |exact rillmeterref02_Row.mono .. |exact rillmeterref11_Right.mono .. |exact rillmeterref15_At.mono .. |exact LeO.refl _|exact LeO.none _|refine LeO.ite ?_ ?_|refine LeO.bind ?_ (fun _=>?_)
def rillmeterref15_Right.T3:Bool × List (List Nat × List Nat):=(true,[([],[]),([0],[0]),([1],[1]),([2],[2]),([3,2],[3]),([4],[4]),([5,4],[4,5]),([6,4],[4,6]),([7,4],[4,7]),([4,8],[4,8]),([9,4],[9]),([10],[10]),([11,10],[10,11]),([12,10],[10,12]),([10],[10]),([14,10],[10,14]),([15,10,10],[10,15]),([13,16,10],[10,13,16]),([10,17],[10,17])])
def rillmeterref15_Right.B3:List Nat:=[0,1,3,7,15,31,63,127,255,511,1023,2047,4095,8191,2047,18431,51199,131071,262143]
theorem rillmeterref15_Right.tab3:rtab .any (opsOf Try.f14 3)=rillmeterref15_Right.T3:=by kernel_rfl
theorem rillmeterref15_Right.bits3:waitsOk rillmeterref15_Right.T3.2 rillmeterref15_Right.B3=true:=by kernel_rfl
def rillmeterref15_Right.T14:Bool × List (List Nat × List Nat):=(true,[([],[]),([0],[0]),([],[]),([1,2],[1,2]),([3],[3]),([4],[4]),([5],[5]),([6],[6]),([7],[7]),([8,7],[7,8]),([7],[7]),([9,10,7],[7,9,10]),([11,7],[7,11]),([12,7],[7,12]),([13,7],[7,13]),([7,14],[7,14]),([15,7],[15]),([16],[16]),([16],[16]),([18,16],[16,18]),([16],[16]),([19,20,16],[16,19,20]),([21,16],[16,21]),([22,16],[16,22]),([17,23,16,16],[16,17,23]),([16],[16]),([24,25,16],[16,24,25]),([16,26],[16,26])])
def rillmeterref15_Right.B14:List Nat:=[0,1,0,7,15,31,63,127,255,511,255,2047,4095,8191,16383,32767,65535,131071,131071,393215,131071,1966079,4063231,8257535,16777215,131071,67108863,134217727]
theorem rillmeterref15_Right.tab14:rtab .any (opsOf Try.f14 14)=rillmeterref15_Right.T14:=by kernel_rfl
theorem rillmeterref15_Right.bits14:waitsOk rillmeterref15_Right.T14.2 rillmeterref15_Right.B14=true:=by kernel_rfl
theorem rillmeterref15_Right.calls (k:Nat)(a0_0 a0_1 a0_2:Int)(A0_3:Option Addr)(c0_3:Nat)(l0_3:List (S74))(a0_4 a0_5:Int)(A0_6:Option Addr)(c0_6:Nat)(l0_6:List (List Int))(r:Bool)(w:World)(hr0_3:Kd.C k74 w A0_3 l0_3.length l0_3)(hc0_3:l0_3.length≤c0_3)(hr0_6:Kd.C (Kd.slice 3 (Kd.int .i64)) w A0_6 l0_6.length l0_6)(hc0_6:l0_6.length≤c0_6)(h:rillmeterref15_Right.f k a0_0 a0_1 a0_2 l0_3 a0_4 a0_5 l0_6=some r):
    Calls Try.prog 14 #[.agg #[.int .u64 a0_0,.int .i64 a0_1,.int .i64 a0_2,.slice A0_3 l0_3.length c0_3,.int .u64 a0_4,.int .i64 a0_5,.slice A0_6 l0_6.length c0_6]] w fun e w'=>e=.returned (.bool r)∧Below w.heap.size w w':=by
 have hu32:=Try.underlying32;have hu30:=Try.underlying30;have hu74:=Try.underlying74;have jE:=mk_ hr0_3;have mD:=mk_ hc0_3;clear hr0_3 hc0_3;have fN:=mk_ hr0_6;have fO:=mk_ hc0_6;clear hr0_6 hc0_6;have HB:=mk_ (Below.refl w.heap.size w);have H:=h;clear h;unfold rillmeterref15_Right.f at H;have HC2:=mk_ H;clear H
 go_enter Try.func14,Try.ntmps14
 go_upto_region 1 with(first|(refine gq_ 1 ?_;(try(refine gate_guard (by rfl) ?_;dsimp only));refine bx_ 1 #[.int .u64 a0_0,.int .i64 a0_1,.int .i64 a0_2,.slice A0_3 l0_3.length c0_3,.int .u64 a0_4,.int .i64 a0_5,.slice A0_6 l0_6.length c0_6] 32 ?_;intro aD hg w3 hbox hb;have aA:=mk_ (hbox);have mE:=gx_ hg HB;have mF:=gx_ hg HB;replace HB:=bs_ HB hb;clear hb hbox hg))
 (try simp only[Act.put,sa_,sb_,sc_])
 go_cut [35] (fun jF wc=>∃(kq:Nat)(fI:Bool),jF=.bool fI∧Aside0 (rillmeterref15_Right.j0 kq fI a0_0 a0_1 a0_2 l0_3 a0_4 a0_5 l0_6=some r)∧Aside0 (kq≤k)∧Aside0 (wc.heap[aD]? =some (.cells #[.int .u64 a0_0,.int .i64 a0_1,.int .i64 a0_2,(.slice A0_3 l0_3.length c0_3),.int .u64 a0_4,.int .i64 a0_5,(.slice A0_6 l0_6.length c0_6)] 32 (0,0)))∧Aside0 (Below w.heap.size w wc))
 case first=>
  have H:=HC2.out;clear HC2
  rcases ic_ H with⟨bY,h_⟩|⟨bY,h_⟩
  ·clear H;have H:=h_;clear h_
   (first|rw[bY]|(simp only[i64_w,i32_w];rw[bY])|skip)
   have H':=mk_ H;clear H;have:=cz7_ aA;have:=fz7_ aA
   go_wp2
   go_meet
   case rel=>exact⟨_,(true),eq_,H',⟨by first|omega|exact Nat.le_refl _⟩,⟨bk_ aA⟩,⟨bl_ HB⟩⟩
  ·clear H;have H:=h_;clear h_
   (first|rw[bY]|(simp only[i64_w,i32_w];rw[bY])|skip)
   by_cases c6:a0_1>8
   ·rw[if_pos c6]at H;have fV:decide (8<a0_1)=true:=decide_eq_true c6;clear c6;have H':=mk_ H;clear H;have:=cz7_ aA;have:=fz7_ aA
    go_wp2
    go_meet
    case rel=>exact⟨_,(true),eq_,H',⟨by first|omega|exact Nat.le_refl _⟩,⟨bk_ aA⟩,⟨bl_ HB⟩⟩
   ·rw[if_neg c6]at H;have fV:decide (8<a0_1)=false:=decide_eq_false c6;clear c6
    rcases ic_ H with⟨fW,h_⟩|⟨fW,h_⟩
    ·clear H;have H:=h_;clear h_;have H':=mk_ H;clear H;have:=cz7_ aA;have:=fz7_ aA
     go_wp2
     go_meet
     case rel=>exact⟨_,(true),eq_,H',⟨by first|omega|exact Nat.le_refl _⟩,⟨bk_ aA⟩,⟨bl_ HB⟩⟩
    ·clear H;have H:=h_;clear h_
     by_cases bS:a0_2>64
     ·rw[if_pos bS]at H;have fX:decide (64<a0_2)=true:=decide_eq_true bS;clear bS;have H':=mk_ H;clear H;have:=cz7_ aA;have:=fz7_ aA
      go_wp2
      go_meet
      case rel=>exact⟨_,(true),eq_,H',⟨by first|omega|exact Nat.le_refl _⟩,⟨bk_ aA⟩,⟨bl_ HB⟩⟩
     ·rw[if_neg bS]at H;have fX:decide (64<a0_2)=false:=decide_eq_false bS;clear bS
      by_cases bF:(l0_3.length:Int)=0
      ·rw[if_pos bF]at H;have fY:=beq_iff_eq.mpr bF;have fZ:=bne_eq_false_iff_eq.mpr bF;clear bF;have H':=mk_ H;clear H;have:=cz7_ aA;have:=fz7_ aA
       go_wp2
       go_meet
       case rel=>exact⟨_,(true),eq_,H',⟨by first|omega|exact Nat.le_refl _⟩,⟨bk_ aA⟩,⟨bl_ HB⟩⟩
      ·rw[if_neg bF]at H;have fY:=beq_eq_false_iff_ne.mpr bF;have fZ:=bne_iff_ne.mpr bF
       have lI:¬(l0_3=[]):=fun h_=>bF (by rw[h_];rfl)
       have H':=mk_ H;clear H;have:=cz7_ aA;have:=fz7_ aA
       go_wp2
       go_meet
       case rel=>exact⟨_,(decide ((l0_3.length:Int)>256)),eq_,H',⟨by first|omega|exact Nat.le_refl _⟩,⟨bk_ aA⟩,⟨bl_ HB⟩⟩
 case rest=>
  clear HC2
  obtain⟨kq,fI,rfl,HA,HJ1,aA,HB⟩:=hcut
  cases kq with
  |zero=>exact absurd HA.out (by simp[rillmeterref15_Right.j0])
  |succ aL=>
   have H:=HA.out;clear HA;simp only[rillmeterref15_Right.j0]at H
   by_cases bM:fI=true
   ·subst bM
    rw[if_pos rfl]at H;obtain rfl:=Option.some.inj H
    go_wp2
    go_ret;exact⟨er_,bl_ HB⟩
   ·replace bM:=Bool.eq_false_iff.mpr bM;subst bM
    rw[if_neg (show¬(false=true)by decide)]at H;have HC16:=mk_ H;clear H
    go_upto_region 3 with(fail)
    go_cut [54] (fun lQ wc=>∃(kq:Nat)(fK:Bool),lQ=.bool fK∧Aside0 (rillmeterref15_Right.j1 kq fK a0_0 a0_1 a0_2 l0_3 a0_4 a0_5 l0_6=some r)∧Aside0 (kq≤aL)∧Aside0 (wc.heap[aD]? =some (.cells #[.int .u64 a0_0,.int .i64 a0_1,.int .i64 a0_2,(.slice A0_3 l0_3.length c0_3),.int .u64 a0_4,.int .i64 a0_5,(.slice A0_6 l0_6.length c0_6)] 32 (0,0)))∧Aside0 (Below w.heap.size w wc))
    case first=>
     have H:=HC16.out;clear HC16;replace H:=bi_ H;obtain⟨fJ,fP,H⟩:=H
     by_cases bN:fJ=true
     ·subst bN
      rw[if_pos rfl]at H
      by_cases aY:a0_5=255
      ·rw[if_pos aY]at H;have bH:=beq_iff_eq.mpr aY;have fA:=bne_eq_false_iff_eq.mpr aY;clear aY
       (first|rw[bH]|(simp only[i64_w,i32_w];rw[bH])|skip)
       replace H:=bi_ H;obtain⟨bG,lR,H⟩:=H;have H':=mk_ H;clear H
       try go_wp2
       replace aA:=bd_ aA;replace HB:=bw_ HB;generalize hD_:wc.drew=mH at aA HB;refine sx_ (n:=19) (ds:=[]) hD_ (cz7_ aA) (fun hHeld=>?_);refine with_tabW rillmeterref15_Right.tab3 rillmeterref15_Right.bits3 (fun HT_ HW_=>?_);clear hD_;refine p1_ 0 1 ?_;refine t1_ 1 3 ?_;refine oq_ 2 (some 38) 19 7 HT_ (fun K hK=>?_);refine gt_ Try.func39 (rillmeterref11_Right.calls aL a0_4 a0_5 _ _ l0_6 true _ ?side1 ?side2 fP.out) ?_
       (case side1=>exact ck_ (Kd.C_below fN.out HB.out));(case side2=>exact fO.out);intro mI hb;replace aA:=bb_ aA hb;replace HB:=bs_ HB hb;(try clear hb);refine hK.out _ _ hl_ (fun hHeld=>?_);clear hK K;refine nm_ 38 ?_;refine p1_ 3 15 ?_;refine p1_ 4 31 ?_;refine p1_ 5 63 ?_;refine p1_ 6 127 ?_;refine t1_ 7 255 ?_;refine p1_ 8 511 ?_;refine p1_ 9 1023 ?_;refine p1_ 10 2047 ?_;refine p1_ 11 4095 ?_;refine p1_ 12 8191 ?_;refine p1_ 14 24575 ?_;refine t1_ 13 32767 ?_;refine t1_ 15 65535 ?_;refine oq_ 16 (some 52) 19 131071 HT_ (fun K hK=>?_);refine gr_ Try.func40 (rillmeterref02_Row.calls aL a0_0 1 bG _ lR.out) ?_
       rintro e w' ⟨rfl,⟨nd,rfl⟩⟩;(try replace aA:=mk_ (blk_drewN aA.out nd));(try replace HB:=mk_ (pw_below_drewN HB.out nd));refine⟨_,rfl,?_⟩;refine hK.out _ _ hl_ (fun hHeld=>?_);clear hK K;refine nm_ 52 ?_;refine p1_ 17 262143 ?_;refine p1_ 18 524287 ?_;refine dq_ HT_ ?_
       try go_wp2
       go_meet
       case rel=>exact⟨_,((a0_4 != bG)),eq_,H',⟨by have:=HJ1.out;first|omega|exact Nat.le_refl _⟩,⟨bk_ aA⟩,⟨bl_ HB⟩⟩
      ·rw[if_neg aY]at H;have bH:=beq_eq_false_iff_ne.mpr aY;have fA:=bne_iff_ne.mpr aY
       (first|rw[bH]|(simp only[i64_w,i32_w];rw[bH])|skip)
       have H':=mk_ H;clear H
       try go_wp2
       replace aA:=bd_ aA;replace HB:=bw_ HB;generalize hD_:wc.drew=mJ at aA HB;refine sx_ (n:=19) (ds:=[]) hD_ (cz7_ aA) (fun hHeld=>?_);refine with_tabW rillmeterref15_Right.tab3 rillmeterref15_Right.bits3 (fun HT_ HW_=>?_);clear hD_;refine p1_ 0 1 ?_;refine t1_ 1 3 ?_;refine oq_ 2 (some 38) 19 7 HT_ (fun K hK=>?_);refine gt_ Try.func39 (rillmeterref11_Right.calls aL a0_4 a0_5 _ _ l0_6 true _ ?side1 ?side2 fP.out) ?_
       (case side1=>exact ck_ (Kd.C_below fN.out HB.out));(case side2=>exact fO.out);intro mK hb;replace aA:=bb_ aA hb;replace HB:=bs_ HB hb;(try clear hb);refine hK.out _ _ hl_ (fun hHeld=>?_);clear hK K;refine nm_ 38 ?_;refine p1_ 3 15 ?_;refine p1_ 4 31 ?_;refine p1_ 5 63 ?_;refine p1_ 6 127 ?_;refine t1_ 7 255 ?_;refine p1_ 8 511 ?_;refine p1_ 9 1023 ?_;refine p1_ 10 2047 ?_;refine uq_ [(11,47),(12,48),(13,49),(14,50),(15,51),(16,52),(17,53)] 1 19 262143 HT_ ?_;refine p1_ 18 524287 ?_;refine dq_ HT_ ?_
       try go_wp2
       go_meet
       case rel=>exact⟨_,(true),eq_,H',⟨by have:=HJ1.out;first|omega|exact Nat.le_refl _⟩,⟨bk_ aA⟩,⟨bl_ HB⟩⟩
     ·replace bN:=Bool.eq_false_iff.mpr bN;subst bN
      rw[if_neg (show¬(false=true)by decide)]at H;have H':=mk_ H;clear H
      try go_wp2
      replace aA:=bd_ aA;replace HB:=bw_ HB;generalize hD_:wc.drew=mL at aA HB;refine sx_ (n:=19) (ds:=[]) hD_ (cz7_ aA) (fun hHeld=>?_);refine with_tabW rillmeterref15_Right.tab3 rillmeterref15_Right.bits3 (fun HT_ HW_=>?_);clear hD_;refine p1_ 0 1 ?_;refine t1_ 1 3 ?_;refine oq_ 2 (some 38) 19 7 HT_ (fun K hK=>?_);refine gt_ Try.func39 (rillmeterref11_Right.calls aL a0_4 a0_5 _ _ l0_6 false _ ?side1 ?side2 fP.out) ?_
      (case side1=>exact ck_ (Kd.C_below fN.out HB.out));(case side2=>exact fO.out);intro mM hb;replace aA:=bb_ aA hb;replace HB:=bs_ HB hb;(try clear hb);refine hK.out _ _ hl_ (fun hHeld=>?_);clear hK K;refine nm_ 38 ?_;refine p1_ 3 15 ?_;refine p1_ 4 31 ?_;refine uq_ [(5,41),(6,42),(7,43),(8,44)] 10 19 511 HT_ ?_;refine p1_ 9 1023 ?_;refine p1_ 10 2047 ?_;refine uq_ [(11,47),(12,48),(13,49),(14,50),(15,51),(16,52),(17,53)] 1 19 262143 HT_ ?_;refine p1_ 18 524287 ?_;refine dq_ HT_ ?_
      try go_wp2
      go_meet
      case rel=>exact⟨_,(true),eq_,H',⟨by have:=HJ1.out;first|omega|exact Nat.le_refl _⟩,⟨bk_ aA⟩,⟨bl_ HB⟩⟩
    case rest=>
     clear HC16;(try clear bM);obtain⟨kq,fK,rfl,HA,HJ15,aA,HB⟩:=hcut
     cases kq with
     |zero=>exact absurd HA.out (by simp[rillmeterref15_Right.j1])
     |succ fQ=>
      have H:=HA.out;clear HA;simp only[rillmeterref15_Right.j1]at H
      by_cases bT:fK=true
      ·subst bT
       rw[if_pos rfl]at H;obtain rfl:=Option.some.inj H
       go_wp2
       go_ret;exact⟨er_,bl_ HB⟩
      ·replace bT:=Bool.eq_false_iff.mpr bT;subst bT
       rw[if_neg (show¬(false=true)by decide)]at H;have H':=mk_ H;clear H
       go_wp2
       go_loopg [3] fQ (fun kq v3 w'=>∃(aC:Int),v3=.int .i64 aC∧Aside0 (rillmeterref15_Right.l0 kq aC a0_0 a0_1 a0_2 l0_3 a0_4 a0_5 l0_6=some r)∧Aside0 (kq≤fQ)∧Aside0 (w'.heap[aD]? =some (.cells #[.int .u64 a0_0,.int .i64 a0_1,.int .i64 a0_2,(.slice A0_3 l0_3.length c0_3),.int .u64 a0_4,.int .i64 a0_5,(.slice A0_6 l0_6.length c0_6)] 32 (0,0)))∧Aside0 (Below w.heap.size w w'))
       case atStart=>exact⟨(0),eq_,H',⟨Nat.le_refl _⟩,⟨bk_ aA⟩,⟨bl_ HB⟩⟩
       case round=>
        clear H';(try clear bM);(try clear bT);obtain⟨aC,rfl,HA,HK3,aA,HB⟩:=hrel
        cases gk with
        |zero=>exact absurd HA.out (by simp[rillmeterref15_Right.l0])
        |succ k3=>
         have H:=HA.out;clear HA;simp only[rillmeterref15_Right.l0]at H
         rcases ic_ H with⟨fR,h_⟩|⟨fR,h_⟩
         ·clear H;have H:=h_;clear h_;replace H:=it_ H;obtain⟨gC,H⟩:=H;have HC30:=mk_ H;clear H;have:=cz7_ aA;have:=fz7_ aA;obtain⟨fB,fC,fD,A432_0,c432_0,e432,fE,fF,gR,hi432_0⟩:=aq_ (at_T74 jE.out aC)
          cases e432;(try replace fE:=bt_ HB fE);(try replace fF:=bt_ HB fF);have aZ:=mk_ hi432_0;have gS:=mk_ gR;clear hi432_0 gR
          go_upto_region 9 with(first|(refine gq_ 4 ?_;(try(refine gate_guard (by rfl) ?_;dsimp only));refine bx_ 4 #[.slice none 0 0,.int .i64 0] 74 ?_;intro aH hg aG hbox hb;have aE:=mk_ (hbox);have mN:=gx_ hg HB;have mO:=gx_ hg HB;have aP:=nx_ hg aA;have:=aP.out;have bI:=ny_ hg aA;have:=bI.out;replace aA:=bb_ aA hb;replace HB:=bs_ HB hb;clear hb hbox hg;have:=cz2_ aE;have:=fz2_ aE))
          (try simp only[Act.put,sa_,sb_,sc_])
          go_cut [82] (fun lS wc=>∃(kq:Nat)(fL:Bool),lS=.bool fL∧Aside0 (rillmeterref15_Right.j3 kq aC fL a0_0 a0_1 a0_2 l0_3 a0_4 a0_5 l0_6 ((rd_T74 l0_3 aC).f0) ((rd_T74 l0_3 aC).f1)=some r)∧Aside0 (kq≤k3)∧Aside0 (wc.heap[aD]? =some (.cells #[.int .u64 a0_0,.int .i64 a0_1,.int .i64 a0_2,(.slice (some fD) l0_3.length c0_3),.int .u64 a0_4,.int .i64 a0_5,(.slice A0_6 l0_6.length c0_6)] 32 (0,0)))∧Aside0 (wc.heap[aH]? =some (.cells #[(.slice A432_0 ((rd_T74 l0_3 aC).f0).length c432_0),.int .i64 ((rd_T74 l0_3 aC).f1)] 74 (0,0)))∧Aside0 (Below w.heap.size w wc))
          case first=>
           have H:=HC30.out;clear HC30
           by_cases bP:(((rd_T74 l0_3 aC).f0).length:Int)>a0_1
           ·rw[if_pos bP]at H;have bU:decide (a0_1<(((rd_T74 l0_3 aC).f0).length:Int))=true:=decide_eq_true bP;clear bP
            (first|rw[bU]|(simp only[i64_w,i32_w];rw[bU])|skip)
            have H':=mk_ H;clear H;have:=cz2_ aE;have:=fz2_ aE;have:=cz7_ aA;have:=fz7_ aA
            go_wp2
            go_meet
            case rel=>exact⟨_,(true),eq_,H',⟨by have:=HJ1.out;have:=HJ15.out;have:=HK3.out;first|omega|exact Nat.le_refl _⟩,⟨fb_⟩,⟨pt_ aE⟩,⟨bl_ HB⟩⟩
           ·rw[if_neg bP]at H;have bU:decide (a0_1<(((rd_T74 l0_3 aC).f0).length:Int))=false:=decide_eq_false bP;clear bP
            (first|rw[bU]|(simp only[i64_w,i32_w];rw[bU])|skip)
            rcases ic_ H with⟨fS,h_⟩|⟨fS,h_⟩
            ·clear H;have H:=h_;clear h_;have H':=mk_ H;clear H;have:=cz2_ aE;have:=fz2_ aE;have:=cz7_ aA;have:=fz7_ aA
             go_wp2
             go_meet
             case rel=>exact⟨_,(true),eq_,H',⟨by have:=HJ1.out;have:=HJ15.out;have:=HK3.out;first|omega|exact Nat.le_refl _⟩,⟨fb_⟩,⟨pt_ aE⟩,⟨bl_ HB⟩⟩
            ·clear H;have H:=h_;clear h_;have H':=mk_ H;clear H;have:=cz2_ aE;have:=fz2_ aE;have:=cz7_ aA;have:=fz7_ aA
             go_wp2
             go_meet
             case rel=>exact⟨_,(decide (((rd_T74 l0_3 aC).f1)>1099511627776)),eq_,H',⟨by have:=HJ1.out;have:=HJ15.out;have:=HK3.out;first|omega|exact Nat.le_refl _⟩,⟨fb_⟩,⟨pt_ aE⟩,⟨bl_ HB⟩⟩
          case rest=>
           clear HC30;(try clear bM);(try clear bT);(try clear fR);(try clear gC)
           (try clear fE);(try clear fF);(try clear fB);(try clear fC);obtain⟨kq,fL,rfl,HA,HJ29,aA,aE,HB⟩:=hcut
           cases kq with
           |zero=>exact absurd HA.out (by simp[rillmeterref15_Right.j3])
           |succ fT=>
            have H:=HA.out;clear HA;simp only[rillmeterref15_Right.j3]at H
            by_cases fG:fL=true
            ·subst fG
             rw[if_pos rfl]at H;obtain rfl:=Option.some.inj H
             go_wp2
             go_ret;exact⟨er_,bl_ HB⟩
            ·replace fG:=Bool.eq_false_iff.mpr fG;subst fG
             rw[if_neg (show¬(false=true)by decide)]at H;have H':=mk_ H;clear H
             go_wp2
             go_loopg [5] fT (fun kq v5 w'=>∃(aB:Int),v5=.int .i64 aB∧Aside0 (rillmeterref15_Right.l1 kq aC aB a0_0 a0_1 a0_2 l0_3 a0_4 a0_5 l0_6 ((rd_T74 l0_3 aC).f0) ((rd_T74 l0_3 aC).f1)=some r)∧Aside0 (kq≤fT)∧Aside0 (w'.heap[aD]? =some (.cells #[.int .u64 a0_0,.int .i64 a0_1,.int .i64 a0_2,(.slice (some fD) l0_3.length c0_3),.int .u64 a0_4,.int .i64 a0_5,(.slice A0_6 l0_6.length c0_6)] 32 (0,0)))∧Aside0 (w'.heap[aH]? =some (.cells #[(.slice A432_0 ((rd_T74 l0_3 aC).f0).length c432_0),.int .i64 ((rd_T74 l0_3 aC).f1)] 74 (0,0)))∧Aside0 (Below w.heap.size w w'))
             case atStart=>exact⟨(0),eq_,H',⟨Nat.le_refl _⟩,⟨bk_ aA⟩,⟨bk_ aE⟩,⟨bl_ HB⟩⟩
             case round=>
              clear H';(try clear bM);(try clear bT);(try clear fR);(try clear gC);(try clear fG)
              (try clear fE);(try clear fF);(try clear fB);(try clear fC);obtain⟨aB,rfl,HA,HK5,aA,aE,HB⟩:=hrel
              cases gk with
              |zero=>exact absurd HA.out (by simp[rillmeterref15_Right.l1])
              |succ k5=>
               have H:=HA.out;clear HA;simp only[rillmeterref15_Right.l1]at H
               rcases ic_ H with⟨lX,h_⟩|⟨lX,h_⟩
               ·clear H;have H:=h_;clear h_;replace H:=it_ H;obtain⟨mX,H⟩:=H
                rcases ic_ H with⟨lY,h_⟩|⟨lY,h_⟩
                ·clear H;have H:=h_;clear h_;obtain rfl:=Option.some.inj H;have:=cz2_ aE;have:=fz2_ aE
                 try go_wp2
                 replace aA:=bd_ aA;replace aE:=bd_ aE;replace HB:=bw_ HB;obtain⟨aQ,aR,aF,e434,aI,aJ,aK⟩:=aq_ (at_T77 aZ.out aB);have aS:=aK;have aT:=aJ;have aU:=aI
                 cases e434;(try replace aI:=bt_ HB aI);(try replace aJ:=bt_ HB aJ);(try replace aK:=bt_ HB aK);generalize hD_:wr.drew=nE at aA aE HB aI aJ aK;refine sx_ (n:=28) (ds:=[]) hD_ (cw2_ aE (And.intro (bt_ HB aU) (And.intro (bt_ HB aT) (bt_ HB aS)))) (fun hHeld=>?_);refine with_tabW rillmeterref15_Right.tab14 rillmeterref15_Right.bits14 (fun HT_ HW_=>?_);clear hD_;refine p1_ 0 1 ?_
                 refine p1_ 2 5 ?_;refine t1_ 1 7 ?_;refine p1_ 3 15 ?_;refine p1_ 4 31 ?_;refine t1_ 5 63 ?_;refine p1_ 6 127 ?_;refine p1_ 7 255 ?_;refine uq_ [(8,98),(9,99),(10,100),(11,101),(12,102),(13,103),(14,104)] 13 28 32767 HT_ ?_;refine p1_ 15 65535 ?_;refine p1_ 16 131071 ?_;refine uq_ [(17,107),(18,108),(19,109),(20,110),(21,111),(22,112),(23,113),(24,114),(25,115),(26,116)] 1 28 134217727 HT_ ?_;refine p1_ 27 268435455 ?_;refine dq_ HT_ ?_
                 try go_wp2
                 go_ret;exact⟨er_,bl_ HB⟩
                ·clear H;have H:=h_;clear h_
                 by_cases cC:((rd_T77 ((rd_T74 l0_3 aC).f0) aB).f1)>1099511627776
                 ·rw[if_pos cC]at H;have lZ:decide (1099511627776<((rd_T77 ((rd_T74 l0_3 aC).f0) aB).f1))=true:=decide_eq_true cC;clear cC;obtain rfl:=Option.some.inj H;have:=cz2_ aE;have:=fz2_ aE
                  try go_wp2
                  replace aA:=bd_ aA;replace aE:=bd_ aE;replace HB:=bw_ HB;obtain⟨aQ,aR,aF,e434,aI,aJ,aK⟩:=aq_ (at_T77 aZ.out aB);have aS:=aK;have aT:=aJ;have aU:=aI
                  cases e434;(try replace aI:=bt_ HB aI);(try replace aJ:=bt_ HB aJ);(try replace aK:=bt_ HB aK);obtain⟨bA,bB,fH,e435,aM,aN,aO⟩:=aq_ (at_T77 aZ.out aB);have aV:=aO;have aW:=aN;have aX:=aM;obtain rfl:aF=fH:=(by injection e435);(try replace aM:=bt_ HB aM);(try replace aN:=bt_ HB aN);(try replace aO:=bt_ HB aO)
                  generalize hD_:wr.drew=nL at aA aE HB aI aJ aK aM aN aO;refine sx_ (n:=28) (ds:=[]) hD_ (cw2_ aE (And.intro (bt_ HB aU) (And.intro (bt_ HB aT) (And.intro (bt_ HB aS) (And.intro (bt_ HB aX) (And.intro (bt_ HB aW) (bt_ HB aV))))))) (fun hHeld=>?_);refine with_tabW rillmeterref15_Right.tab14 rillmeterref15_Right.bits14 (fun HT_ HW_=>?_);clear hD_;refine p1_ 0 1 ?_;refine p1_ 2 5 ?_;refine t1_ 1 7 ?_;refine p1_ 3 15 ?_;refine p1_ 4 31 ?_;refine t1_ 5 63 ?_;refine p1_ 6 127 ?_;refine p1_ 7 255 ?_;refine p1_ 8 511 ?_;refine p1_ 10 1535 ?_;refine t1_ 9 2047 ?_;refine p1_ 11 4095 ?_;refine p1_ 12 8191 ?_;refine t1_ 13 16383 ?_;refine p1_ 14 32767 ?_;refine p1_ 15 65535 ?_;refine p1_ 16 131071 ?_;refine uq_ [(17,107),(18,108),(19,109),(20,110),(21,111),(22,112),(23,113),(24,114),(25,115),(26,116)] 1 28 134217727 HT_ ?_;refine p1_ 27 268435455 ?_;refine dq_ HT_ ?_
                  try go_wp2
                  go_ret;exact⟨er_,bl_ HB⟩
                 ·rw[if_neg cC]at H;have lZ:decide (1099511627776<((rd_T77 ((rd_T74 l0_3 aC).f0) aB).f1))=false:=decide_eq_false cC;clear cC;replace H:=bi_ H;obtain⟨bR,jD,H⟩:=H
                  by_cases bV:bR=aB
                  ·rw[if_pos bV]at H;have mA:=beq_iff_eq.mpr bV;have mC:=bne_eq_false_iff_eq.mpr bV;clear bV;have H':=mk_ H;clear H;have:=cz2_ aE;have:=fz2_ aE
                   try go_wp2
                   replace aA:=bd_ aA;replace aE:=bd_ aE;replace HB:=bw_ HB;obtain⟨aQ,aR,aF,e434,aI,aJ,aK⟩:=aq_ (at_T77 aZ.out aB);have aS:=aK;have aT:=aJ;have aU:=aI
                   cases e434;(try replace aI:=bt_ HB aI);(try replace aJ:=bt_ HB aJ);(try replace aK:=bt_ HB aK);obtain⟨bA,bB,fH,e435,aM,aN,aO⟩:=aq_ (at_T77 aZ.out aB);have aV:=aO;have aW:=aN;have aX:=aM;obtain rfl:aF=fH:=(by injection e435);(try replace aM:=bt_ HB aM);(try replace aN:=bt_ HB aN);(try replace aO:=bt_ HB aO);obtain⟨bW,bX,fU,e436,bC,bD,bE⟩:=aq_ (at_T77 aZ.out aB)
                   have bJ:=bE;have bK:=bD;have bL:=bC;obtain rfl:aF=fU:=(by injection e436);(try replace bC:=bt_ HB bC);(try replace bD:=bt_ HB bD);(try replace bE:=bt_ HB bE)
                   generalize hD_:wr.drew=nS at aA aE HB aI aJ aK aM aN aO bC bD bE;refine sx_ (n:=28) (ds:=[]) hD_ (cw2_ aE (And.intro (bt_ HB aU) (And.intro (bt_ HB aT) (And.intro (bt_ HB aS) (And.intro (bt_ HB aX) (And.intro (bt_ HB aW) (And.intro (bt_ HB aV) (And.intro (bt_ HB bL) (And.intro (bt_ HB bK) (bt_ HB bJ)))))))))) (fun hHeld=>?_);refine with_tabW rillmeterref15_Right.tab14 rillmeterref15_Right.bits14 (fun HT_ HW_=>?_);clear hD_;refine p1_ 0 1 ?_;refine p1_ 2 5 ?_;refine t1_ 1 7 ?_;refine p1_ 3 15 ?_;refine p1_ 4 31 ?_;refine t1_ 5 63 ?_;refine p1_ 6 127 ?_;refine p1_ 7 255 ?_;refine p1_ 8 511 ?_;refine p1_ 10 1535 ?_;refine t1_ 9 2047 ?_;refine p1_ 11 4095 ?_;refine p1_ 12 8191 ?_;refine t1_ 13 16383 ?_;refine p1_ 14 32767 ?_;refine p1_ 15 65535 ?_;refine p1_ 16 131071 ?_;refine p1_ 18 393215 ?_;refine p1_ 20 1441791 ?_;refine p1_ 25 34996223 ?_;refine t1_ 17 35127295 ?_;refine t1_ 19 35651583 ?_;refine p1_ 21 37748735 ?_;refine p1_ 22 41943039 ?_;refine t1_ 23 50331647 ?_;refine oq_ 24 (some 114) 28 67108863 HT_ (fun K hK=>?_);refine gt_ Try.func41 (rillmeterref15_At.calls k5 _ _ ((rd_T74 l0_3 aC).f0) ((rd_T74 l0_3 aC).f1) ((rd_T77 ((rd_T74 l0_3 aC).f0) aB).f0) bR _ ?side1 ?side2 jD.out) ?_
                   (case side1=>exact ck_ (Kd.C_below aZ.out HB.out));(case side2=>exact gS.out);intro nT hb;replace aA:=bb_ aA hb;replace aE:=bb_ aE hb;replace HB:=bs_ HB hb;(try clear hb);refine hK.out _ _ hl_ (fun hHeld=>?_);clear hK K;refine nm_ 114 ?_;refine p1_ 26 134217727 ?_;refine p1_ 27 268435455 ?_;refine dq_ HT_ ?_
                   try go_wp2
                   go_roundg k5
                   case measure=>have:=HJ1.out;have:=HJ15.out;have:=HK3.out;have:=HJ29.out;have:=HK5.out;omega
                   case rel=>exact⟨(wrap64 (aB+1)),eq_,H',⟨by have:=HJ1.out;have:=HJ15.out;have:=HK3.out;have:=HJ29.out;have:=HK5.out;omega⟩,⟨bk_ aA⟩,⟨bk_ aE⟩,⟨bl_ HB⟩⟩
                  ·rw[if_neg bV]at H;have mA:=beq_eq_false_iff_ne.mpr bV;have mC:=bne_iff_ne.mpr bV;obtain rfl:=Option.some.inj H;have:=cz2_ aE;have:=fz2_ aE
                   try go_wp2
                   replace aA:=bd_ aA;replace aE:=bd_ aE;replace HB:=bw_ HB;obtain⟨aQ,aR,aF,e434,aI,aJ,aK⟩:=aq_ (at_T77 aZ.out aB);have aS:=aK;have aT:=aJ;have aU:=aI
                   cases e434;(try replace aI:=bt_ HB aI);(try replace aJ:=bt_ HB aJ);(try replace aK:=bt_ HB aK);obtain⟨bA,bB,fH,e435,aM,aN,aO⟩:=aq_ (at_T77 aZ.out aB);have aV:=aO;have aW:=aN;have aX:=aM;obtain rfl:aF=fH:=(by injection e435);(try replace aM:=bt_ HB aM);(try replace aN:=bt_ HB aN);(try replace aO:=bt_ HB aO);obtain⟨bW,bX,fU,e436,bC,bD,bE⟩:=aq_ (at_T77 aZ.out aB)
                   have bJ:=bE;have bK:=bD;have bL:=bC;obtain rfl:aF=fU:=(by injection e436);(try replace bC:=bt_ HB bC);(try replace bD:=bt_ HB bD);(try replace bE:=bt_ HB bE)
                   generalize hD_:wr.drew=pA at aA aE HB aI aJ aK aM aN aO bC bD bE;refine sx_ (n:=28) (ds:=[]) hD_ (cw2_ aE (And.intro (bt_ HB aU) (And.intro (bt_ HB aT) (And.intro (bt_ HB aS) (And.intro (bt_ HB aX) (And.intro (bt_ HB aW) (And.intro (bt_ HB aV) (And.intro (bt_ HB bL) (And.intro (bt_ HB bK) (bt_ HB bJ)))))))))) (fun hHeld=>?_);refine with_tabW rillmeterref15_Right.tab14 rillmeterref15_Right.bits14 (fun HT_ HW_=>?_);clear hD_;refine p1_ 0 1 ?_;refine p1_ 2 5 ?_;refine t1_ 1 7 ?_;refine p1_ 3 15 ?_;refine p1_ 4 31 ?_;refine t1_ 5 63 ?_;refine p1_ 6 127 ?_;refine p1_ 7 255 ?_;refine p1_ 8 511 ?_;refine p1_ 10 1535 ?_;refine t1_ 9 2047 ?_;refine p1_ 11 4095 ?_;refine p1_ 12 8191 ?_;refine t1_ 13 16383 ?_;refine p1_ 14 32767 ?_;refine p1_ 15 65535 ?_;refine p1_ 16 131071 ?_;refine p1_ 18 393215 ?_;refine p1_ 20 1441791 ?_;refine p1_ 25 34996223 ?_;refine t1_ 17 35127295 ?_;refine t1_ 19 35651583 ?_;refine p1_ 21 37748735 ?_;refine p1_ 22 41943039 ?_;refine t1_ 23 50331647 ?_;refine oq_ 24 (some 114) 28 67108863 HT_ (fun K hK=>?_);refine gt_ Try.func41 (rillmeterref15_At.calls k5 _ _ ((rd_T74 l0_3 aC).f0) ((rd_T74 l0_3 aC).f1) ((rd_T77 ((rd_T74 l0_3 aC).f0) aB).f0) bR _ ?side1 ?side2 jD.out) ?_
                   (case side1=>exact ck_ (Kd.C_below aZ.out HB.out));(case side2=>exact gS.out);intro pB hb;replace aA:=bb_ aA hb;replace aE:=bb_ aE hb;replace HB:=bs_ HB hb;(try clear hb);refine hK.out _ _ hl_ (fun hHeld=>?_);clear hK K;refine nm_ 114 ?_;refine p1_ 26 134217727 ?_;refine p1_ 27 268435455 ?_;refine dq_ HT_ ?_
                   try go_wp2
                   go_ret;exact⟨er_,bl_ HB⟩
               ·clear H;have H:=h_;clear h_;have H':=mk_ H;clear H;have:=cz2_ aE;have:=fz2_ aE
                go_wp2
                go_roundg k5
                case measure=>have:=HJ1.out;have:=HJ15.out;have:=HK3.out;have:=HJ29.out;have:=HK5.out;omega
                case rel=>exact⟨(wrap64 (aC+1)),eq_,H',⟨by have:=HJ1.out;have:=HJ15.out;have:=HK3.out;have:=HJ29.out;have:=HK5.out;omega⟩,⟨bk_ aA⟩,⟨bl_ HB⟩⟩
         ·clear H;have H:=h_;clear h_;obtain rfl:=Option.some.inj H;have:=cz7_ aA;have:=fz7_ aA
          go_wp2
          go_ret;exact⟨er_,bl_ HB⟩
end Go.Proofs.Ytljmjjeghebdpaa.PElasticTurns
