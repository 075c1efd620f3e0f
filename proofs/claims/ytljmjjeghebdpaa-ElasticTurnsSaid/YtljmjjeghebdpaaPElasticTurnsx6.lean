/- Functions, each as a plain function, with the proof that a call comes to its answer. Condition of each: the arguments read as the data that it names, and the plain function has an answer. -/
import Derived.Test.YtljmjjeghebdpaaPElasticTurnsx0
import Derived.Test.YtljmjjeghebdpaaPElasticTurnsx2
import Derived.Test.YtljmjjeghebdpaaPElasticTurnsx3
import Derived.Test.YtljmjjeghebdpaaPElasticTurnsx5
import Derived.Test.YtljmjjeghebdpaaShort
import Derived.Lib.SliceRun
import Derived.Test.YtljmjjeghebdpaaPressMore
import Derived.Lib.Bytealg
import Derived.Lib.Slices
import Derived.Lib.Strings
import Derived.Lib.Walk
import Derived.Shelf.Abstract
import Derived.Test.YtljmjjeghebdpaaFuns
namespace Go.Proofs.Ytljmjjeghebdpaa.PElasticTurns
open Go.RowKit Go.Proofs.YtljmjjeghebdpaaW.PrintWords Go.Proofs.YtljmjjeghebdpaaW.PrintLast Go.Proofs.YtljmjjeghebdpaaW.PrintMore Go.Proofs.Ytljmjjeghebdpaa.Short Go.Proofs.Ytljmjjeghebdpaa.Press Go.Proofs.Ytljmjjeghebdpaa.PressMore
set_option maxHeartbeats 80000000
set_option maxRecDepth 100000
attribute [local go_sem] max2_int min2_int max_two min_two max_three min_three max_four min_four
set_option linter.unusedVariables false
set_option linter.unusedSimpArgs false
def elastic_Get.f (k:Nat)(a0_0 a0_1 a0_2:Int)(l0_3:List (S56))(a0_4 a0_5:Int)(l0_6:List (List Int))(a1:ByteArray):Option (Int × Int × Bool × Bool):=(elastic_Right.f k a0_0 a0_1 a0_2 l0_3 a0_4 a0_5 l0_6).bind fun t279=>(if t279=true then((elastic_bucket.f k a0_0 a0_1 a0_2 l0_3 a0_4 a0_5 l0_6 a1).bind fun t280=>(if 0≤t280 then(if t280<(l0_3.length:Int)then((elastic_find.f ((rd_T56 l0_3 t280).f0) ((rd_T56 l0_3 t280).f1) a1).bind fun t283=>(if t283≥0 then(if 0≤t283 then(if t283<(((rd_T56 l0_3 t280).f0).length:Int)then(if((rd_T76 ((rd_T56 l0_3 t280).f0) t283).f2=true)then((least_Get.f k a0_4 a0_5 l0_6 a1).bind fun bt286=>(some ((rd_T76 ((rd_T56 l0_3 t280).f0) t283).f1,wrap64 (((rd_T76 ((rd_T56 l0_3 t280).f0) t283).f1)+bt286.1),(bt286.1==0),!bt286.2)))else(some ((rd_T76 ((rd_T56 l0_3 t280).f0) t283).f1,(rd_T76 ((rd_T56 l0_3 t280).f0) t283).f1,true,false)))else(none))else(none))else((least_Get.f k a0_4 a0_5 l0_6 a1).bind fun bt288=>(some (0,wrap64 (0+bt288.1),(bt288.1==0),!bt288.2)))))else(none))else(none)))else(some (0,0,false,false)))
theorem elastic_Get.mono:∀a0 a1 a2 a3 a4 a5 a6 a7 k,LeO (elastic_Get.f k a0 a1 a2 a3 a4 a5 a6 a7) (elastic_Get.f (k+1) a0 a1 a2 a3 a4 a5 a6 a7):=by
  intro a0 a1 a2 a3 a4 a5 a6 a7 k
  unfold elastic_Get.f
  repeat' with_reducible first|exact elastic_Right.mono .. |exact elastic_bucket.mono .. |exact least_Get.mono .. |exact LeO.refl _|exact LeO.none _|refine LeO.ite ?_ ?_|refine LeO.bind ?_ (fun _=>?_)
def elastic_Get.T4:Bool × List (List Nat × List Nat):=(true,[([],[]),([0],[0]),([],[]),([],[]),([2,3],[2,3]),([1,4],[1,4]),([5],[5]),([],[]),([7,6,4,0,1,2,3,4,5,6,7],[6,7])])
def elastic_Get.B4:List Nat:=[0,1,0,0,12,31,63,0,255]
theorem elastic_Get.tab4:rtab .any (opsOf Try.f12 4)=elastic_Get.T4:=by kernel_rfl
theorem elastic_Get.bits4:waitsOk elastic_Get.T4.2 elastic_Get.B4=true:=by kernel_rfl
theorem elastic_Get.calls (k:Nat)(a0_0 a0_1 a0_2:Int)(A0_3:Option Addr)(c0_3:Nat)(l0_3:List (S56))(a0_4 a0_5:Int)(A0_6:Option Addr)(c0_6:Nat)(l0_6:List (List Int))(a1:ByteArray)(r1 r2:Int)(r3 r4:Bool)(w:World)(hr0_3:Kd.C k56 w A0_3 l0_3.length l0_3)(hc0_3:l0_3.length≤c0_3)(hr0_6:Kd.C (Kd.slice 3 (Kd.int .i64)) w A0_6 l0_6.length l0_6)(hc0_6:l0_6.length≤c0_6)(h:elastic_Get.f k a0_0 a0_1 a0_2 l0_3 a0_4 a0_5 l0_6 a1=some (r1,r2,r3,r4)):
    Calls Try.prog 12 #[.agg #[.int .u64 a0_0,.int .i64 a0_1,.int .i64 a0_2,.slice A0_3 l0_3.length c0_3,.int .u64 a0_4,.int .i64 a0_5,.slice A0_6 l0_6.length c0_6],.string a1] w fun e w'=>e=.returned (.tuple #[.int .i64 r1,.int .i64 r2,.bool r3,.bool r4])∧Below w.heap.size w w':=by
 have hu28:=Try.underlying28;have hu56:=Try.underlying56;have hu26:=Try.underlying26;have aP:=mk_ hr0_3;have aY:=mk_ hc0_3;clear hr0_3 hc0_3;have aT:=mk_ hr0_6;have aU:=mk_ hc0_6;clear hr0_6 hc0_6;have HB:=mk_ (Below.refl w.heap.size w);have H:=h;clear h;unfold elastic_Get.f at H;replace H:=bi_ H;obtain⟨bR,A3,H⟩:=H
 by_cases c4:bR=true
 ·subst c4
  rw[if_pos rfl]at H;replace H:=bi_ H;obtain⟨aB,A5,H⟩:=H;replace H:=it_ H;obtain⟨cW,H⟩:=H;replace H:=it_ H;obtain⟨cX,H⟩:=H;replace H:=bi_ H;obtain⟨aE,A8,H⟩:=H
  by_cases c9:aE≥0
  ·rw[if_pos c9]at H;have cK:decide (0≤aE)=true:=decide_eq_true c9;clear c9;replace H:=it_ H;obtain⟨cY,H⟩:=H;replace H:=it_ H;obtain⟨cZ,H⟩:=H;obtain⟨bq12,hbq12⟩:∃b_:Bool,b_=((rd_T76 ((rd_T56 l0_3 aB).f0) aE).f2):=⟨_,rfl⟩
   replace H:(if(bq12=true)then((least_Get.f k a0_4 a0_5 l0_6 a1).bind fun bt286=>(some ((rd_T76 ((rd_T56 l0_3 aB).f0) aE).f1,wrap64 (((rd_T76 ((rd_T56 l0_3 aB).f0) aE).f1)+bt286.1),(bt286.1==0),!bt286.2)))else(some ((rd_T76 ((rd_T56 l0_3 aB).f0) aE).f1,(rd_T76 ((rd_T56 l0_3 aB).f0) aE).f1,true,false)))=some (r1,r2,r3,r4):=by rw[←hbq12]at H;exact H
   have bU:=mk_ hbq12;clear hbq12
   by_cases bV:(bq12=true)
   ·subst bV
    rw[if_pos rfl]at H;replace H:=bi_ H;obtain⟨⟨bW,cF⟩,cL,H⟩:=H;dsimp only at H;simp only[Option.some.injEq,Prod.mk.injEq]at H;obtain⟨rfl,rfl,rfl,rfl⟩:=H
    go_enter Try.func12,Try.ntmps12
    try go_wp2_with (first|(refine gq_ 2 ?_;refine bx_ 2 #[.int .u64 a0_0,.int .i64 a0_1,.int .i64 a0_2,.slice A0_3 l0_3.length c0_3,.int .u64 a0_4,.int .i64 a0_5,.slice A0_6 l0_6.length c0_6] 28 ?_;intro aC hg bD hbox hb;have aA:=mk_ (hbox);have bX:=gx_ hg HB;have bY:=gx_ hg HB;replace HB:=bs_ HB hb;clear hb hbox hg;have:=cz7_ aA;have:=fz7_ aA)|(refine gk_ 15 ?_;refine gd_ (some 14) Try.func15 (elastic_Right.calls k a0_0 a0_1 a0_2 _ _ l0_3 a0_4 a0_5 _ _ l0_6 true _ ?side1 ?side2 ?side3 ?side4 A3.out) ?_;(case side1=>exact ck_ (Kd.C_below aP.out HB.out));(case side2=>exact aY.out);(case side3=>exact ck_ (Kd.C_below aT.out HB.out));(case side4=>exact aU.out);intro cM hb;replace aA:=bb_ aA hb;replace HB:=bs_ HB hb;(try clear hb)))
    replace aA:=bd_ aA;replace HB:=bw_ HB;obtain⟨aW,aX,aK,A281_0,c281_0,e281,aM,aN,bC,hi281_0⟩:=aq_ (at_T56 aP.out aB);have aI:=aN;have aJ:=aM
    cases e281;(try replace aM:=bt_ HB aM);(try replace aN:=bt_ HB aN);have aV:=mk_ hi281_0;have bQ:=mk_ bC;clear hi281_0 bC
    generalize hD_:cM.drew=dO at aA HB aV aM aN;refine sx_ (n:=9) (ds:=[]) hD_ (cw7_ aA (And.intro (bt_ HB aJ) (bt_ HB aI))) (fun hHeld=>?_);refine with_tabW elastic_Get.tab4 elastic_Get.bits4 (fun HT_ HW_=>?_);clear hD_;refine p1_ 0 1 ?_;refine p1_ 3 9 ?_;refine t1_ 1 11 ?_;refine t1_ 2 15 ?_
    refine join_ (σ:=Nat) 1 (mB 9 255) (fun s_=>[(20,.int .i64 aB),(9,.pointer (some ⟨s_,0,none⟩)),(21,.pointer (some (aK.add ((aB).toNat*2)))),(22,.agg #[.slice A281_0 ((rd_T56 l0_3 aB).f0).length c281_0,.int .i64 ((rd_T56 l0_3 aB).f1)])]) (fun s_ w'=>(w'.cell? ⟨aC,0,none⟩=some (.int .u64 a0_0)∧w'.cell? ⟨aC,1,none⟩=some (.int .i64 a0_1)∧w'.cell? ⟨aC,2,none⟩=some (.int .i64 a0_2)∧w'.cell? ⟨aC,3,none⟩=some (.slice (some aK) l0_3.length c0_3)∧w'.cell? ⟨aC,4,none⟩=some (.int .u64 a0_4)∧w'.cell? ⟨aC,5,none⟩=some (.int .i64 a0_5)∧w'.cell? ⟨aC,6,none⟩=some (.slice A0_6 l0_6.length c0_6)∧w'.cell? (aK.add ((aB).toNat*2))=some (.slice A281_0 ((rd_T56 l0_3 aB).f0).length c281_0)∧w'.cell? ⟨(aK.add ((aB).toNat*2)).block,(aK.add ((aB).toNat*2)).off+1,none⟩=some (.int .i64 ((rd_T56 l0_3 aB).f1)))∧(w'.heap[aC]? =some (.cells #[.int .u64 a0_0,.int .i64 a0_1,.int .i64 a0_2,.slice (some aK) l0_3.length c0_3,.int .u64 a0_4,.int .i64 a0_5,.slice A0_6 l0_6.length c0_6] 28 (0,0)))∧(w'.heap[s_]? =some (.cells #[.slice none 0 0,.int .i64 0] 56 (0,0)))∧(w.heap.size≤s_)∧(w.heap.size≤s_)∧(aC≠s_)∧(s_≠aC)∧(Below w.heap.size w w')) ?_ ?_;rotate_left
    ·intro hCont;refine two_ (i:=4) (j:=7) (Ni:=some 20) (Nj:=some 9) (mB 9 31) (mB 9 143) rfl rfl rfl rfl (two_of HT_.out (by kernel_rfl)) (by decide) (by decide) (fun K hK=>?_) (fun K hK=>?_)
     ·skip;refine go2_ Try.func28 #[.agg #[.int .u64 a0_0,.int .i64 a0_1,.int .i64 a0_2,.slice (some aK) l0_3.length c0_3,.int .u64 a0_4,.int .i64 a0_5,.slice A0_6 l0_6.length c0_6],.string a1] ?_
      with_reducible refine(elastic_bucket.calls k a0_0 a0_1 a0_2 _ _ l0_3 a0_4 a0_5 _ _ l0_6 a1 aB _ ?side1 ?side2 ?side3 ?side4 A5.out).mono ?_
      (case side1=>exact ck_ (Kd.C_below aP.out HB.out));(case side2=>exact aY.out);(case side3=>exact ck_ (Kd.C_below aT.out HB.out));(case side4=>exact aU.out);rintro e cN ⟨rfl,hb⟩;refine⟨_,rfl,?_⟩;replace aA:=bb_ aA hb;replace HB:=bs_ HB hb;(try clear hb);refine hK.out _ _ hl_ (fun hHeld=>?_);clear hK K;refine nm_ 20 ?_;refine p1_ 5 63 ?_;refine t1_ 6 127 ?_;refine oq_ 7 (some 9) 9 255 HT_ (fun K hK=>?_);refine by_ 9 #[.slice none 0 0,.int .i64 0] 56 ?_;intro aD hg cO hbox hb;have aG:=mk_ (hbox);have aH:=gx_ hg HB;have aO:=gx_ hg HB;replace HB:=bs_ HB hb;have aF:=nx_ hg aA;have:=aF.out;have aL:=ny_ hg aA;have:=aL.out;replace aA:=bb_ aA hb;clear hb hbox hg;refine hK.out _ _ hl_ (fun hHeld=>?_);clear hK K;refine nm_ 9 ?_
      exact norm_ (by simp only[putAll,Act.put,sa_,sb_,sc_]) (hCont (aD) _ ⟨hHeld,(bk_ aA),(bk_ aG),aH.out,aO.out,aF.out,aL.out,(bl_ HB)⟩)
     ·skip;refine by_ 9 #[.slice none 0 0,.int .i64 0] 56 ?_
      intro aD hg cN hbox hb;have aG:=mk_ (hbox);have aH:=gx_ hg HB;have aO:=gx_ hg HB;replace HB:=bs_ HB hb;have aF:=nx_ hg aA;have:=aF.out;have aL:=ny_ hg aA;have:=aL.out;replace aA:=bb_ aA hb;clear hb hbox hg;refine hK.out _ _ hl_ (fun hHeld=>?_);clear hK K;refine nm_ 9 ?_;refine oq_ 4 (some 20) 9 159 HT_ (fun K hK=>?_);refine gt_ Try.func28 (elastic_bucket.calls k a0_0 a0_1 a0_2 _ _ l0_3 a0_4 a0_5 _ _ l0_6 a1 aB _ ?side1 ?side2 ?side3 ?side4 A5.out) ?_
      (case side1=>exact ck_ (Kd.C_below aP.out HB.out));(case side2=>exact aY.out);(case side3=>exact ck_ (Kd.C_below aT.out HB.out));(case side4=>exact aU.out);intro cO hb;replace aA:=bb_ aA hb;replace aG:=bb_ aG hb;replace HB:=bs_ HB hb;(try clear hb);refine hK.out _ _ hl_ (fun hHeld=>?_);clear hK K;refine nm_ 20 ?_;refine p1_ 5 191 ?_;refine t1_ 6 255 ?_
      exact norm_ (by simp only[putAll,Act.put,sa_,sb_,sc_]) (hCont (aD) _ ⟨hHeld,(bk_ aA),(bk_ aG),aH.out,aO.out,aF.out,aL.out,(bl_ HB)⟩)
    rintro aD aQ ⟨hS_,h0_,h1_,h2_,h3_,h4_,h5_,h6_⟩;(try dsimp only at hS_ h0_ h1_ h2_ h3_ h4_ h5_ h6_);replace aA:=mk_ (h0_);have aG:=mk_ (h1_);have aH:=mk_ (h2_);have aO:=mk_ (h3_);have aF:=mk_ (h4_);have:=aF.out;have aL:=mk_ (h5_);have:=aL.out;replace HB:=mk_ (h6_);clear h0_ h1_ h2_ h3_ h4_ h5_ h6_;have hHeld:aQ.cell? ⟨aC,0,none⟩=some (.int .u64 a0_0)∧aQ.cell? ⟨aC,1,none⟩=some (.int .i64 a0_1)∧aQ.cell? ⟨aC,2,none⟩=some (.int .i64 a0_2)∧aQ.cell? ⟨aC,3,none⟩=some (.slice (some aK) l0_3.length c0_3)∧aQ.cell? ⟨aC,4,none⟩=some (.int .u64 a0_4)∧aQ.cell? ⟨aC,5,none⟩=some (.int .i64 a0_5)∧aQ.cell? ⟨aC,6,none⟩=some (.slice A0_6 l0_6.length c0_6)∧aQ.cell? (aK.add ((aB).toNat*2))=some (.slice A281_0 ((rd_T56 l0_3 aB).f0).length c281_0)∧aQ.cell? ⟨(aK.add ((aB).toNat*2)).block,(aK.add ((aB).toNat*2)).off+1,none⟩=some (.int .i64 ((rd_T56 l0_3 aB).f1)):=hS_;refine norm_ (a':=?_) ?_ ?_;rotate_left
    ·simp only[putAll,Act.put,sa_,sb_,sc_];rfl
    refine oq_ 8 (none) 9 511 HT_ (fun K hK=>?_);have hs22:aQ.cell? ⟨aD,0,none⟩=some (.slice none 0 0):=bc_ aG 0;have hfs22:=blk_frozen aG.out 0;have hs23:aQ.cell? ⟨aD,1,none⟩=some (.int .i64 0):=bc_ aG 1;have hfs23:=blk_frozen aG.out 1;refine skip_ (w1:=?_) (by rfl) rfl ?_ ?_;rotate_left
    ·go_simp;rfl
    refine hK.out _ _ hm_ (fun hHeld=>?_)
    clear hK K;refine dq_ HT_ ?_;have:=cz2_ aG;have:=fz2_ aG
    try go_wp2_with (first|(refine gk_ 30 ?_;refine gd_ (some 25) Try.func30 (elastic_find.calls _ _ ((rd_T56 l0_3 aB).f0) ((rd_T56 l0_3 aB).f1) a1 aE _ ?side1 ?side2 A8.out) ?_;(case side1=>exact Kd.C_below aV.out (bl_ HB));(case side2=>exact bQ.out);intro aZ hb;replace aA:=bbf_ aA hb;replace aG:=mk_ (blk_below (g:=aD) (o:=.cells #[.slice A281_0 ((rd_T56 l0_3 aB).f0).length c281_0,.int .i64 ((rd_T56 l0_3 aB).f1)] 56 (0,0)) (pt_ aG) hb);replace HB:=bs_ HB hb;(try clear hb);have:=cz2_ aG;have:=fz2_ aG;obtain⟨bE,bF,bZ,e284,bG,bH,bA⟩:=aq_ (at_T76 aV.out aE);(try rw[←bU.out]at bA);cases e284;replace bG:=bt_ HB bG;replace bH:=bt_ HB bH;replace bA:=bt_ HB bA;obtain⟨bI,bJ,cA,e285,bK,bL,bB⟩:=aq_ (at_T76 aV.out aE);(try rw[←bU.out]at bB);obtain rfl:bZ=cA:=(by injection e285);replace bK:=bt_ HB bK;replace bL:=bt_ HB bL;replace bB:=bt_ HB bB;have:=cz7_ aA;have:=fz7_ aA)|(refine gk_ 33 ?_;refine gd_ (some 47) Try.func33 (least_Get.calls k a0_4 a0_5 _ _ l0_6 a1 bW cF _ ?side1 ?side2 cL.out) ?_;(case side1=>exact ck_ (Kd.C_below aT.out HB.out));(case side2=>exact aU.out);intro fN hb;replace aA:=bb_ aA hb;replace aG:=bb_ aG hb;replace HB:=bs_ HB hb;(try clear hb)))
    refine bodyPost_ret (results_list (rs:=[.tmp 4,.tmp 5,.tmp 6,.tmp 7]) rfl (by simp) (.tmp (.tmp (.tmp (.tmp .nil))))) rfl ?_;exact⟨er_,bl_ HB⟩
   ·replace bV:=Bool.eq_false_iff.mpr bV;subst bV
    rw[if_neg (show¬(false=true)by decide)]at H;simp only[Option.some.injEq,Prod.mk.injEq]at H;obtain⟨rfl,rfl,rfl,rfl⟩:=H
    go_enter Try.func12,Try.ntmps12
    try go_wp2_with (first|(refine gq_ 2 ?_;refine bx_ 2 #[.int .u64 a0_0,.int .i64 a0_1,.int .i64 a0_2,.slice A0_3 l0_3.length c0_3,.int .u64 a0_4,.int .i64 a0_5,.slice A0_6 l0_6.length c0_6] 28 ?_;intro aC hg bM hbox hb;have aA:=mk_ (hbox);have bX:=gx_ hg HB;have bY:=gx_ hg HB;replace HB:=bs_ HB hb;clear hb hbox hg;have:=cz7_ aA;have:=fz7_ aA)|(refine gk_ 15 ?_;refine gd_ (some 14) Try.func15 (elastic_Right.calls k a0_0 a0_1 a0_2 _ _ l0_3 a0_4 a0_5 _ _ l0_6 true _ ?side1 ?side2 ?side3 ?side4 A3.out) ?_;(case side1=>exact ck_ (Kd.C_below aP.out HB.out));(case side2=>exact aY.out);(case side3=>exact ck_ (Kd.C_below aT.out HB.out));(case side4=>exact aU.out);intro cP hb;replace aA:=bb_ aA hb;replace HB:=bs_ HB hb;(try clear hb)))
    replace aA:=bd_ aA;replace HB:=bw_ HB;obtain⟨aW,aX,aK,A281_0,c281_0,e281,aM,aN,bC,hi281_0⟩:=aq_ (at_T56 aP.out aB);have aI:=aN;have aJ:=aM
    cases e281;(try replace aM:=bt_ HB aM);(try replace aN:=bt_ HB aN);have aV:=mk_ hi281_0;have bQ:=mk_ bC;clear hi281_0 bC
    generalize hD_:cP.drew=gC at aA HB aV aM aN;refine sx_ (n:=9) (ds:=[]) hD_ (cw7_ aA (And.intro (bt_ HB aJ) (bt_ HB aI))) (fun hHeld=>?_);refine with_tabW elastic_Get.tab4 elastic_Get.bits4 (fun HT_ HW_=>?_);clear hD_;refine p1_ 0 1 ?_;refine p1_ 3 9 ?_;refine t1_ 1 11 ?_;refine t1_ 2 15 ?_
    refine join_ (σ:=Nat) 1 (mB 9 255) (fun s_=>[(20,.int .i64 aB),(9,.pointer (some ⟨s_,0,none⟩)),(21,.pointer (some (aK.add ((aB).toNat*2)))),(22,.agg #[.slice A281_0 ((rd_T56 l0_3 aB).f0).length c281_0,.int .i64 ((rd_T56 l0_3 aB).f1)])]) (fun s_ w'=>(w'.cell? ⟨aC,0,none⟩=some (.int .u64 a0_0)∧w'.cell? ⟨aC,1,none⟩=some (.int .i64 a0_1)∧w'.cell? ⟨aC,2,none⟩=some (.int .i64 a0_2)∧w'.cell? ⟨aC,3,none⟩=some (.slice (some aK) l0_3.length c0_3)∧w'.cell? ⟨aC,4,none⟩=some (.int .u64 a0_4)∧w'.cell? ⟨aC,5,none⟩=some (.int .i64 a0_5)∧w'.cell? ⟨aC,6,none⟩=some (.slice A0_6 l0_6.length c0_6)∧w'.cell? (aK.add ((aB).toNat*2))=some (.slice A281_0 ((rd_T56 l0_3 aB).f0).length c281_0)∧w'.cell? ⟨(aK.add ((aB).toNat*2)).block,(aK.add ((aB).toNat*2)).off+1,none⟩=some (.int .i64 ((rd_T56 l0_3 aB).f1)))∧(w'.heap[aC]? =some (.cells #[.int .u64 a0_0,.int .i64 a0_1,.int .i64 a0_2,.slice (some aK) l0_3.length c0_3,.int .u64 a0_4,.int .i64 a0_5,.slice A0_6 l0_6.length c0_6] 28 (0,0)))∧(w'.heap[s_]? =some (.cells #[.slice none 0 0,.int .i64 0] 56 (0,0)))∧(w.heap.size≤s_)∧(w.heap.size≤s_)∧(aC≠s_)∧(s_≠aC)∧(Below w.heap.size w w')) ?_ ?_;rotate_left
    ·intro hCont;refine two_ (i:=4) (j:=7) (Ni:=some 20) (Nj:=some 9) (mB 9 31) (mB 9 143) rfl rfl rfl rfl (two_of HT_.out (by kernel_rfl)) (by decide) (by decide) (fun K hK=>?_) (fun K hK=>?_)
     ·skip;refine go2_ Try.func28 #[.agg #[.int .u64 a0_0,.int .i64 a0_1,.int .i64 a0_2,.slice (some aK) l0_3.length c0_3,.int .u64 a0_4,.int .i64 a0_5,.slice A0_6 l0_6.length c0_6],.string a1] ?_
      with_reducible refine(elastic_bucket.calls k a0_0 a0_1 a0_2 _ _ l0_3 a0_4 a0_5 _ _ l0_6 a1 aB _ ?side1 ?side2 ?side3 ?side4 A5.out).mono ?_
      (case side1=>exact ck_ (Kd.C_below aP.out HB.out));(case side2=>exact aY.out);(case side3=>exact ck_ (Kd.C_below aT.out HB.out));(case side4=>exact aU.out);rintro e cQ ⟨rfl,hb⟩;refine⟨_,rfl,?_⟩;replace aA:=bb_ aA hb;replace HB:=bs_ HB hb;(try clear hb);refine hK.out _ _ hl_ (fun hHeld=>?_);clear hK K;refine nm_ 20 ?_;refine p1_ 5 63 ?_;refine t1_ 6 127 ?_;refine oq_ 7 (some 9) 9 255 HT_ (fun K hK=>?_);refine by_ 9 #[.slice none 0 0,.int .i64 0] 56 ?_;intro aD hg cR hbox hb;have aG:=mk_ (hbox);have aH:=gx_ hg HB;have aO:=gx_ hg HB;replace HB:=bs_ HB hb;have aF:=nx_ hg aA;have:=aF.out;have aL:=ny_ hg aA;have:=aL.out;replace aA:=bb_ aA hb;clear hb hbox hg;refine hK.out _ _ hl_ (fun hHeld=>?_);clear hK K;refine nm_ 9 ?_
      exact norm_ (by simp only[putAll,Act.put,sa_,sb_,sc_]) (hCont (aD) _ ⟨hHeld,(bk_ aA),(bk_ aG),aH.out,aO.out,aF.out,aL.out,(bl_ HB)⟩)
     ·skip;refine by_ 9 #[.slice none 0 0,.int .i64 0] 56 ?_
      intro aD hg cQ hbox hb;have aG:=mk_ (hbox);have aH:=gx_ hg HB;have aO:=gx_ hg HB;replace HB:=bs_ HB hb;have aF:=nx_ hg aA;have:=aF.out;have aL:=ny_ hg aA;have:=aL.out;replace aA:=bb_ aA hb;clear hb hbox hg;refine hK.out _ _ hl_ (fun hHeld=>?_);clear hK K;refine nm_ 9 ?_;refine oq_ 4 (some 20) 9 159 HT_ (fun K hK=>?_);refine gt_ Try.func28 (elastic_bucket.calls k a0_0 a0_1 a0_2 _ _ l0_3 a0_4 a0_5 _ _ l0_6 a1 aB _ ?side1 ?side2 ?side3 ?side4 A5.out) ?_
      (case side1=>exact ck_ (Kd.C_below aP.out HB.out));(case side2=>exact aY.out);(case side3=>exact ck_ (Kd.C_below aT.out HB.out));(case side4=>exact aU.out);intro cR hb;replace aA:=bb_ aA hb;replace aG:=bb_ aG hb;replace HB:=bs_ HB hb;(try clear hb);refine hK.out _ _ hl_ (fun hHeld=>?_);clear hK K;refine nm_ 20 ?_;refine p1_ 5 191 ?_;refine t1_ 6 255 ?_
      exact norm_ (by simp only[putAll,Act.put,sa_,sb_,sc_]) (hCont (aD) _ ⟨hHeld,(bk_ aA),(bk_ aG),aH.out,aO.out,aF.out,aL.out,(bl_ HB)⟩)
    rintro aD aR ⟨hS_,h0_,h1_,h2_,h3_,h4_,h5_,h6_⟩;(try dsimp only at hS_ h0_ h1_ h2_ h3_ h4_ h5_ h6_);replace aA:=mk_ (h0_);have aG:=mk_ (h1_);have aH:=mk_ (h2_);have aO:=mk_ (h3_);have aF:=mk_ (h4_);have:=aF.out;have aL:=mk_ (h5_);have:=aL.out;replace HB:=mk_ (h6_);clear h0_ h1_ h2_ h3_ h4_ h5_ h6_;have hHeld:aR.cell? ⟨aC,0,none⟩=some (.int .u64 a0_0)∧aR.cell? ⟨aC,1,none⟩=some (.int .i64 a0_1)∧aR.cell? ⟨aC,2,none⟩=some (.int .i64 a0_2)∧aR.cell? ⟨aC,3,none⟩=some (.slice (some aK) l0_3.length c0_3)∧aR.cell? ⟨aC,4,none⟩=some (.int .u64 a0_4)∧aR.cell? ⟨aC,5,none⟩=some (.int .i64 a0_5)∧aR.cell? ⟨aC,6,none⟩=some (.slice A0_6 l0_6.length c0_6)∧aR.cell? (aK.add ((aB).toNat*2))=some (.slice A281_0 ((rd_T56 l0_3 aB).f0).length c281_0)∧aR.cell? ⟨(aK.add ((aB).toNat*2)).block,(aK.add ((aB).toNat*2)).off+1,none⟩=some (.int .i64 ((rd_T56 l0_3 aB).f1)):=hS_;refine norm_ (a':=?_) ?_ ?_;rotate_left
    ·simp only[putAll,Act.put,sa_,sb_,sc_];rfl
    refine oq_ 8 (none) 9 511 HT_ (fun K hK=>?_);have hs37:aR.cell? ⟨aD,0,none⟩=some (.slice none 0 0):=bc_ aG 0;have hfs37:=blk_frozen aG.out 0;have hs38:aR.cell? ⟨aD,1,none⟩=some (.int .i64 0):=bc_ aG 1;have hfs38:=blk_frozen aG.out 1;refine skip_ (w1:=?_) (by rfl) rfl ?_ ?_;rotate_left
    ·go_simp;rfl
    refine hK.out _ _ hm_ (fun hHeld=>?_)
    clear hK K;refine dq_ HT_ ?_;have:=cz2_ aG;have:=fz2_ aG
    try go_wp2_with (first|(refine gk_ 30 ?_;refine gd_ (some 25) Try.func30 (elastic_find.calls _ _ ((rd_T56 l0_3 aB).f0) ((rd_T56 l0_3 aB).f1) a1 aE _ ?side1 ?side2 A8.out) ?_;(case side1=>exact Kd.C_below aV.out (bl_ HB));(case side2=>exact bQ.out);intro cH hb;replace aA:=bbf_ aA hb;replace aG:=mk_ (blk_below (g:=aD) (o:=.cells #[.slice A281_0 ((rd_T56 l0_3 aB).f0).length c281_0,.int .i64 ((rd_T56 l0_3 aB).f1)] 56 (0,0)) (pt_ aG) hb);replace HB:=bs_ HB hb;(try clear hb);have:=cz2_ aG;have:=fz2_ aG;obtain⟨bE,bF,bZ,e284,bG,bH,bA⟩:=aq_ (at_T76 aV.out aE);(try rw[←bU.out]at bA);cases e284;replace bG:=bt_ HB bG;replace bH:=bt_ HB bH;replace bA:=bt_ HB bA;have bI:0≤(aE:Int):=od_;have bJ:aE<(((rd_T56 l0_3 aB).f0).length:Int):=od_;obtain⟨cA,e285,bK,bL,bB⟩:=at_T76 aV.out aE bI bJ;(try rw[←bU.out]at bB);obtain rfl:bZ=cA:=(by injection e285);replace bK:=bt_ HB bK;replace bL:=bt_ HB bL;replace bB:=bt_ HB bB;replace bI:=eq_true bI;replace bJ:=eq_true bJ))
    refine bodyPost_ret (results_list (rs:=[.tmp 4,.tmp 5,.tmp 6,.tmp 7]) rfl (by simp) (.tmp (.tmp (.tmp (.tmp .nil))))) rfl ?_;exact⟨er_,bl_ HB⟩
  ·rw[if_neg c9]at H;have cK:decide (0≤aE)=false:=decide_eq_false c9;clear c9;replace H:=bi_ H;obtain⟨⟨cB,cI⟩,cS,H⟩:=H;dsimp only at H;simp only[Option.some.injEq,Prod.mk.injEq]at H;obtain⟨rfl,rfl,rfl,rfl⟩:=H
   go_enter Try.func12,Try.ntmps12
   try go_wp2_with (first|(refine gq_ 2 ?_;refine bx_ 2 #[.int .u64 a0_0,.int .i64 a0_1,.int .i64 a0_2,.slice A0_3 l0_3.length c0_3,.int .u64 a0_4,.int .i64 a0_5,.slice A0_6 l0_6.length c0_6] 28 ?_;intro aC hg bN hbox hb;have aA:=mk_ (hbox);have bX:=gx_ hg HB;have bY:=gx_ hg HB;replace HB:=bs_ HB hb;clear hb hbox hg;have:=cz7_ aA;have:=fz7_ aA)|(refine gk_ 15 ?_;refine gd_ (some 14) Try.func15 (elastic_Right.calls k a0_0 a0_1 a0_2 _ _ l0_3 a0_4 a0_5 _ _ l0_6 true _ ?side1 ?side2 ?side3 ?side4 A3.out) ?_;(case side1=>exact ck_ (Kd.C_below aP.out HB.out));(case side2=>exact aY.out);(case side3=>exact ck_ (Kd.C_below aT.out HB.out));(case side4=>exact aU.out);intro cT hb;replace aA:=bb_ aA hb;replace HB:=bs_ HB hb;(try clear hb)))
   replace aA:=bd_ aA;replace HB:=bw_ HB;obtain⟨aW,aX,aK,A281_0,c281_0,e281,aM,aN,bC,hi281_0⟩:=aq_ (at_T56 aP.out aB);have aI:=aN;have aJ:=aM
   cases e281;(try replace aM:=bt_ HB aM);(try replace aN:=bt_ HB aN);have aV:=mk_ hi281_0;have bQ:=mk_ bC;clear hi281_0 bC
   generalize hD_:cT.drew=hB at aA HB aV aM aN;refine sx_ (n:=9) (ds:=[]) hD_ (cw7_ aA (And.intro (bt_ HB aJ) (bt_ HB aI))) (fun hHeld=>?_);refine with_tabW elastic_Get.tab4 elastic_Get.bits4 (fun HT_ HW_=>?_);clear hD_;refine p1_ 0 1 ?_;refine p1_ 3 9 ?_;refine t1_ 1 11 ?_;refine t1_ 2 15 ?_
   refine join_ (σ:=Nat) 1 (mB 9 255) (fun s_=>[(20,.int .i64 aB),(9,.pointer (some ⟨s_,0,none⟩)),(21,.pointer (some (aK.add ((aB).toNat*2)))),(22,.agg #[.slice A281_0 ((rd_T56 l0_3 aB).f0).length c281_0,.int .i64 ((rd_T56 l0_3 aB).f1)])]) (fun s_ w'=>(w'.cell? ⟨aC,0,none⟩=some (.int .u64 a0_0)∧w'.cell? ⟨aC,1,none⟩=some (.int .i64 a0_1)∧w'.cell? ⟨aC,2,none⟩=some (.int .i64 a0_2)∧w'.cell? ⟨aC,3,none⟩=some (.slice (some aK) l0_3.length c0_3)∧w'.cell? ⟨aC,4,none⟩=some (.int .u64 a0_4)∧w'.cell? ⟨aC,5,none⟩=some (.int .i64 a0_5)∧w'.cell? ⟨aC,6,none⟩=some (.slice A0_6 l0_6.length c0_6)∧w'.cell? (aK.add ((aB).toNat*2))=some (.slice A281_0 ((rd_T56 l0_3 aB).f0).length c281_0)∧w'.cell? ⟨(aK.add ((aB).toNat*2)).block,(aK.add ((aB).toNat*2)).off+1,none⟩=some (.int .i64 ((rd_T56 l0_3 aB).f1)))∧(w'.heap[aC]? =some (.cells #[.int .u64 a0_0,.int .i64 a0_1,.int .i64 a0_2,.slice (some aK) l0_3.length c0_3,.int .u64 a0_4,.int .i64 a0_5,.slice A0_6 l0_6.length c0_6] 28 (0,0)))∧(w'.heap[s_]? =some (.cells #[.slice none 0 0,.int .i64 0] 56 (0,0)))∧(w.heap.size≤s_)∧(w.heap.size≤s_)∧(aC≠s_)∧(s_≠aC)∧(Below w.heap.size w w')) ?_ ?_;rotate_left
   ·intro hCont;refine two_ (i:=4) (j:=7) (Ni:=some 20) (Nj:=some 9) (mB 9 31) (mB 9 143) rfl rfl rfl rfl (two_of HT_.out (by kernel_rfl)) (by decide) (by decide) (fun K hK=>?_) (fun K hK=>?_)
    ·skip;refine go2_ Try.func28 #[.agg #[.int .u64 a0_0,.int .i64 a0_1,.int .i64 a0_2,.slice (some aK) l0_3.length c0_3,.int .u64 a0_4,.int .i64 a0_5,.slice A0_6 l0_6.length c0_6],.string a1] ?_
     with_reducible refine(elastic_bucket.calls k a0_0 a0_1 a0_2 _ _ l0_3 a0_4 a0_5 _ _ l0_6 a1 aB _ ?side1 ?side2 ?side3 ?side4 A5.out).mono ?_
     (case side1=>exact ck_ (Kd.C_below aP.out HB.out));(case side2=>exact aY.out);(case side3=>exact ck_ (Kd.C_below aT.out HB.out));(case side4=>exact aU.out);rintro e cU ⟨rfl,hb⟩;refine⟨_,rfl,?_⟩;replace aA:=bb_ aA hb;replace HB:=bs_ HB hb;(try clear hb);refine hK.out _ _ hl_ (fun hHeld=>?_);clear hK K;refine nm_ 20 ?_;refine p1_ 5 63 ?_;refine t1_ 6 127 ?_;refine oq_ 7 (some 9) 9 255 HT_ (fun K hK=>?_);refine by_ 9 #[.slice none 0 0,.int .i64 0] 56 ?_;intro aD hg cV hbox hb;have aG:=mk_ (hbox);have aH:=gx_ hg HB;have aO:=gx_ hg HB;replace HB:=bs_ HB hb;have aF:=nx_ hg aA;have:=aF.out;have aL:=ny_ hg aA;have:=aL.out;replace aA:=bb_ aA hb;clear hb hbox hg;refine hK.out _ _ hl_ (fun hHeld=>?_);clear hK K;refine nm_ 9 ?_
     exact norm_ (by simp only[putAll,Act.put,sa_,sb_,sc_]) (hCont (aD) _ ⟨hHeld,(bk_ aA),(bk_ aG),aH.out,aO.out,aF.out,aL.out,(bl_ HB)⟩)
    ·skip;refine by_ 9 #[.slice none 0 0,.int .i64 0] 56 ?_
     intro aD hg cU hbox hb;have aG:=mk_ (hbox);have aH:=gx_ hg HB;have aO:=gx_ hg HB;replace HB:=bs_ HB hb;have aF:=nx_ hg aA;have:=aF.out;have aL:=ny_ hg aA;have:=aL.out;replace aA:=bb_ aA hb;clear hb hbox hg;refine hK.out _ _ hl_ (fun hHeld=>?_);clear hK K;refine nm_ 9 ?_;refine oq_ 4 (some 20) 9 159 HT_ (fun K hK=>?_);refine gt_ Try.func28 (elastic_bucket.calls k a0_0 a0_1 a0_2 _ _ l0_3 a0_4 a0_5 _ _ l0_6 a1 aB _ ?side1 ?side2 ?side3 ?side4 A5.out) ?_
     (case side1=>exact ck_ (Kd.C_below aP.out HB.out));(case side2=>exact aY.out);(case side3=>exact ck_ (Kd.C_below aT.out HB.out));(case side4=>exact aU.out);intro cV hb;replace aA:=bb_ aA hb;replace aG:=bb_ aG hb;replace HB:=bs_ HB hb;(try clear hb);refine hK.out _ _ hl_ (fun hHeld=>?_);clear hK K;refine nm_ 20 ?_;refine p1_ 5 191 ?_;refine t1_ 6 255 ?_
     exact norm_ (by simp only[putAll,Act.put,sa_,sb_,sc_]) (hCont (aD) _ ⟨hHeld,(bk_ aA),(bk_ aG),aH.out,aO.out,aF.out,aL.out,(bl_ HB)⟩)
   rintro aD aS ⟨hS_,h0_,h1_,h2_,h3_,h4_,h5_,h6_⟩;(try dsimp only at hS_ h0_ h1_ h2_ h3_ h4_ h5_ h6_);replace aA:=mk_ (h0_);have aG:=mk_ (h1_);have aH:=mk_ (h2_);have aO:=mk_ (h3_);have aF:=mk_ (h4_);have:=aF.out;have aL:=mk_ (h5_);have:=aL.out;replace HB:=mk_ (h6_);clear h0_ h1_ h2_ h3_ h4_ h5_ h6_;have hHeld:aS.cell? ⟨aC,0,none⟩=some (.int .u64 a0_0)∧aS.cell? ⟨aC,1,none⟩=some (.int .i64 a0_1)∧aS.cell? ⟨aC,2,none⟩=some (.int .i64 a0_2)∧aS.cell? ⟨aC,3,none⟩=some (.slice (some aK) l0_3.length c0_3)∧aS.cell? ⟨aC,4,none⟩=some (.int .u64 a0_4)∧aS.cell? ⟨aC,5,none⟩=some (.int .i64 a0_5)∧aS.cell? ⟨aC,6,none⟩=some (.slice A0_6 l0_6.length c0_6)∧aS.cell? (aK.add ((aB).toNat*2))=some (.slice A281_0 ((rd_T56 l0_3 aB).f0).length c281_0)∧aS.cell? ⟨(aK.add ((aB).toNat*2)).block,(aK.add ((aB).toNat*2)).off+1,none⟩=some (.int .i64 ((rd_T56 l0_3 aB).f1)):=hS_;refine norm_ (a':=?_) ?_ ?_;rotate_left
   ·simp only[putAll,Act.put,sa_,sb_,sc_];rfl
   refine oq_ 8 (none) 9 511 HT_ (fun K hK=>?_);have hs51:aS.cell? ⟨aD,0,none⟩=some (.slice none 0 0):=bc_ aG 0;have hfs51:=blk_frozen aG.out 0;have hs52:aS.cell? ⟨aD,1,none⟩=some (.int .i64 0):=bc_ aG 1;have hfs52:=blk_frozen aG.out 1;refine skip_ (w1:=?_) (by rfl) rfl ?_ ?_;rotate_left
   ·go_simp;rfl
   refine hK.out _ _ hm_ (fun hHeld=>?_)
   clear hK K;refine dq_ HT_ ?_;have:=cz2_ aG;have:=fz2_ aG
   try go_wp2_with (first|(refine gk_ 30 ?_;refine gd_ (some 25) Try.func30 (elastic_find.calls _ _ ((rd_T56 l0_3 aB).f0) ((rd_T56 l0_3 aB).f1) a1 aE _ ?side1 ?side2 A8.out) ?_;(case side1=>exact Kd.C_below aV.out (bl_ HB));(case side2=>exact bQ.out);intro bO hb;replace aA:=bbf_ aA hb;replace aG:=mk_ (blk_below (g:=aD) (o:=.cells #[.slice A281_0 ((rd_T56 l0_3 aB).f0).length c281_0,.int .i64 ((rd_T56 l0_3 aB).f1)] 56 (0,0)) (pt_ aG) hb);replace HB:=bs_ HB hb;(try clear hb);have:=cz7_ aA;have:=fz7_ aA)|(refine gk_ 33 ?_;refine gd_ (some 47) Try.func33 (least_Get.calls k a0_4 a0_5 _ _ l0_6 a1 cB cI _ ?side1 ?side2 cS.out) ?_;(case side1=>exact ck_ (Kd.C_below aT.out HB.out));(case side2=>exact aU.out);intro hX hb;replace aA:=bb_ aA hb;replace aG:=bb_ aG hb;replace HB:=bs_ HB hb;(try clear hb)))
   refine bodyPost_ret (results_list (rs:=[.tmp 4,.tmp 5,.tmp 6,.tmp 7]) rfl (by simp) (.tmp (.tmp (.tmp (.tmp .nil))))) rfl ?_;exact⟨er_,bl_ HB⟩
 ·replace c4:=Bool.eq_false_iff.mpr c4;subst c4
  rw[if_neg (show¬(false=true)by decide)]at H;simp only[Option.some.injEq,Prod.mk.injEq]at H;obtain⟨rfl,rfl,rfl,rfl⟩:=H
  go_enter Try.func12,Try.ntmps12
  go_wp2_with (first|(refine gq_ 2 ?_;refine bx_ 2 #[.int .u64 a0_0,.int .i64 a0_1,.int .i64 a0_2,.slice A0_3 l0_3.length c0_3,.int .u64 a0_4,.int .i64 a0_5,.slice A0_6 l0_6.length c0_6] 28 ?_;intro aC hg bP hbox hb;have aA:=mk_ (hbox);have bX:=gx_ hg HB;have bY:=gx_ hg HB;replace HB:=bs_ HB hb;clear hb hbox hg;have:=cz7_ aA;have:=fz7_ aA)|(refine gk_ 15 ?_;refine gd_ (some 14) Try.func15 (elastic_Right.calls k a0_0 a0_1 a0_2 _ _ l0_3 a0_4 a0_5 _ _ l0_6 false _ ?side1 ?side2 ?side3 ?side4 A3.out) ?_;(case side1=>exact ck_ (Kd.C_below aP.out HB.out));(case side2=>exact aY.out);(case side3=>exact ck_ (Kd.C_below aT.out HB.out));(case side4=>exact aU.out);intro iM hb;replace aA:=bb_ aA hb;replace HB:=bs_ HB hb;(try clear hb)))
  refine bodyPost_ret (results_list (rs:=[.tmp 4,.tmp 5,.tmp 6,.tmp 7]) rfl (by simp) (.tmp (.tmp (.tmp (.tmp .nil))))) rfl ?_;exact⟨er_,bl_ HB⟩
def cmp_Or_int.l0:Nat→Int→List Int→Int→Int→Option (Int)
  |0,_,_,_,_=>none
  |k+1,a,b,c,d=>if d<c then(if 0≤d then(if d<(b.length:Int)then(if(rd b d)=a then(cmp_Or_int.l0 k a b c (wrap64 (d+1)))else(some (rd b d)))else(none))else(none))else(some a)
def cmp_Or_int.f (k:Nat)(l0:List Int):Option (Int):=cmp_Or_int.l0 k 0 l0 (l0.length:Int) 0
theorem cmp_Or_int.mono_l:∀k,(∀y0 y1 y2 y3,LeO (cmp_Or_int.l0 k y0 y1 y2 y3) (cmp_Or_int.l0 (k+1) y0 y1 y2 y3))
  |0=>fun _ _ _ _ r h=>by simp[cmp_Or_int.l0]at h
  |k+1=>by
    have ih0:=cmp_Or_int.mono_l k
    · intro y0 y1 y2 y3
      unfold cmp_Or_int.l0
      repeat' with_reducible first|exact ih0 .. |exact LeO.refl _|exact LeO.none _|refine LeO.ite ?_ ?_|refine LeO.bind ?_ (fun _=>?_)
theorem cmp_Or_int.mono:∀a0 k,LeO (cmp_Or_int.f k a0) (cmp_Or_int.f (k+1) a0):=by
  intro a0 k
  have ih0:=cmp_Or_int.mono_l k
  unfold cmp_Or_int.f
  repeat' with_reducible first|exact ih0 .. |exact LeO.refl _|exact LeO.none _|refine LeO.ite ?_ ?_|refine LeO.bind ?_ (fun _=>?_)
theorem cmp_Or_int.calls (k:Nat)(A0:Option Addr)(c0:Nat)(l0:List Int)(r:Int)(w:World)(hr0:Kd.C (Kd.int .i64) w A0 l0.length l0)(hc0:l0.length≤c0)(h:cmp_Or_int.f k l0=some r):
    Calls Try.prog 36 #[.slice A0 l0.length c0] w fun e w'=>e=.returned (.int .i64 r)∧Drawn0 w w':=by
 have HR0:=mk_ hr0;have HC0:=mk_ hc0;clear hr0 hc0;have H:=h;clear h;unfold cmp_Or_int.f at H;have H':=mk_ H;clear H
 go_enter Try.func36,Try.ntmps36
 go_wp2
 go_loopg [8] k (fun kq v8 w'=>∃(aA:Int),v8=.int .i64 aA∧Aside0 (cmp_Or_int.l0 kq 0 l0 (l0.length:Int) aA=some r)∧Aside0 (kq≤k)∧Drawn0 w w')
 case atStart=>exact⟨(0),eq_,H',⟨Nat.le_refl _⟩,by repeat(first|exact Drawn0.refl _|apply Drawn0.step)⟩
 case round=>
  clear H';obtain⟨aA,rfl,HA,HK1,⟨m1,rfl⟩⟩:=hrel
  cases gk with
  |zero=>exact absurd HA.out (by simp[cmp_Or_int.l0])
  |succ k1=>
   have H:=HA.out;clear HA;simp only[cmp_Or_int.l0]at H
   rcases ic_ H with⟨aD,h_⟩|⟨aD,h_⟩
   ·clear H;have H:=h_;clear h_;replace H:=it_ H;obtain⟨aI,H⟩:=H;replace H:=it_ H;obtain⟨aJ,H⟩:=H
    by_cases c5:(rd l0 aA)=0
    ·rw[if_pos c5]at H;have aE:=beq_iff_eq.mpr c5;have aF:=bne_eq_false_iff_eq.mpr c5;clear c5;have H':=mk_ H;clear H;obtain⟨aB,aC,aG,e290,aH⟩:=aq_ (Kd.at_int HR0.out aA)
     cases e290
     go_wp2
     go_roundg k1
     case measure=>have:=HK1.out;omega
     case rel=>exact⟨(wrap64 (aA+1)),eq_,H',⟨by have:=HK1.out;omega⟩,by repeat(first|exact Drawn0.refl _|apply Drawn0.step)⟩
    ·rw[if_neg c5]at H;have aE:=beq_eq_false_iff_ne.mpr c5;have aF:=bne_iff_ne.mpr c5;obtain rfl:=Option.some.inj H;obtain⟨aB,aC,aG,e290,aH⟩:=aq_ (Kd.at_int HR0.out aA)
     cases e290
     go_wp2
     go_ret;exact⟨by first|rfl|(simp;done)|(simp[*];done),by repeat(first|exact Drawn0.refl _|apply Drawn0.step)⟩
   ·clear H;have H:=h_;clear h_;obtain rfl:=Option.some.inj H
    go_wp2
    go_ret;exact⟨by first|rfl|(simp;done)|(simp[*];done),by repeat(first|exact Drawn0.refl _|apply Drawn0.step)⟩
def cmp_isNaN_int.f (a0:Int):Option (Bool):=some (a0 != a0)
theorem cmp_isNaN_int.calls (a0:Int)(r:Bool)(w:World)(h:cmp_isNaN_int.f a0=some r):
    Calls Try.prog 60 #[.int .i64 a0] w fun e w'=>e=.returned (.bool r)∧Drawn0 w w':=by
 have H:(some (a0 != a0))=some r:=h;clear h;obtain rfl:=Option.some.inj H
 go_enter Try.func60,Try.ntmps60
 go_wp2
 go_ret;exact⟨by first|rfl|(simp;done)|(simp[*];done),by repeat(first|exact Drawn0.refl _|apply Drawn0.step)⟩
def cmp_Compare_int.f (a0 a1:Int):Option (Int):=(cmp_isNaN_int.f a0).bind fun t291=>((cmp_isNaN_int.f a1).bind fun t292=>(if t291=true then(if t292=true then(some 0)else(some (-1)))else(if t292=true then(some 1)else(if a0<a1 then(some (-1))else(if a0>a1 then(some 1)else(some 0))))))
theorem cmp_Compare_int.calls (a0 a1 r:Int)(w:World)(h:cmp_Compare_int.f a0 a1=some r):
    Calls Try.prog 37 #[.int .i64 a0,.int .i64 a1] w fun e w'=>e=.returned (.int .i64 r)∧Drawn0 w w':=by
 have H:=h;clear h;unfold cmp_Compare_int.f at H;replace H:=bi_ H;obtain⟨aB,A3,H⟩:=H;replace H:=bi_ H;obtain⟨aA,A4,H⟩:=H
 by_cases c5:aB=true
 ·subst c5
  rw[if_pos rfl]at H
  by_cases c6:aA=true
  ·subst c6
   rw[if_pos rfl]at H;obtain rfl:=Option.some.inj H
   go_enter Try.func37,Try.ntmps37
   go_wp2_with (first|(refine gk_ 60 ?_;refine gd_ (some 8) Try.func60 (cmp_isNaN_int.calls a0 true _ A3.out) ?_;rintro w' ⟨nd,rfl⟩)|(refine gk_ 60 ?_;refine gd_ (some 10) Try.func60 (cmp_isNaN_int.calls a1 true _ A4.out) ?_;rintro w' ⟨nd,rfl⟩))
   go_ret;exact⟨by first|rfl|(simp;done)|(simp[*];done),by repeat(first|exact Drawn0.refl _|apply Drawn0.step)⟩
  ·replace c6:=Bool.eq_false_iff.mpr c6;subst c6
   rw[if_neg (show¬(false=true)by decide)]at H;obtain rfl:=Option.some.inj H
   go_enter Try.func37,Try.ntmps37
   go_wp2_with (first|(refine gk_ 60 ?_;refine gd_ (some 8) Try.func60 (cmp_isNaN_int.calls a0 true _ A3.out) ?_;rintro w' ⟨nd,rfl⟩)|(refine gk_ 60 ?_;refine gd_ (some 10) Try.func60 (cmp_isNaN_int.calls a1 false _ A4.out) ?_;rintro w' ⟨nd,rfl⟩))
   go_ret;exact⟨by first|rfl|(simp;done)|(simp[*];done),by repeat(first|exact Drawn0.refl _|apply Drawn0.step)⟩
 ·replace c5:=Bool.eq_false_iff.mpr c5;subst c5
  rw[if_neg (show¬(false=true)by decide)]at H
  by_cases c7:aA=true
  ·subst c7
   rw[if_pos rfl]at H;obtain rfl:=Option.some.inj H
   go_enter Try.func37,Try.ntmps37
   go_wp2_with (first|(refine gk_ 60 ?_;refine gd_ (some 8) Try.func60 (cmp_isNaN_int.calls a0 false _ A3.out) ?_;rintro w' ⟨nd,rfl⟩)|(refine gk_ 60 ?_;refine gd_ (some 10) Try.func60 (cmp_isNaN_int.calls a1 true _ A4.out) ?_;rintro w' ⟨nd,rfl⟩))
   go_ret;exact⟨by first|rfl|(simp;done)|(simp[*];done),by repeat(first|exact Drawn0.refl _|apply Drawn0.step)⟩
  ·replace c7:=Bool.eq_false_iff.mpr c7;subst c7
   rw[if_neg (show¬(false=true)by decide)]at H
   rcases ic_ H with⟨aE,h_⟩|⟨aE,h_⟩
   ·clear H;have H:=h_;clear h_;obtain rfl:=Option.some.inj H
    go_enter Try.func37,Try.ntmps37
    go_wp2_with (first|(refine gk_ 60 ?_;refine gd_ (some 8) Try.func60 (cmp_isNaN_int.calls a0 false _ A3.out) ?_;rintro w' ⟨nd,rfl⟩)|(refine gk_ 60 ?_;refine gd_ (some 10) Try.func60 (cmp_isNaN_int.calls a1 false _ A4.out) ?_;rintro w' ⟨nd,rfl⟩))
    go_ret;exact⟨by first|rfl|(simp;done)|(simp[*];done),by repeat(first|exact Drawn0.refl _|apply Drawn0.step)⟩
   ·clear H;have H:=h_;clear h_
    by_cases c9:a0>a1
    ·rw[if_pos c9]at H;have aF:decide (a1<a0)=true:=decide_eq_true c9;clear c9;obtain rfl:=Option.some.inj H
     go_enter Try.func37,Try.ntmps37
     go_wp2_with (first|(refine gk_ 60 ?_;refine gd_ (some 8) Try.func60 (cmp_isNaN_int.calls a0 false _ A3.out) ?_;rintro w' ⟨nd,rfl⟩)|(refine gk_ 60 ?_;refine gd_ (some 10) Try.func60 (cmp_isNaN_int.calls a1 false _ A4.out) ?_;rintro w' ⟨nd,rfl⟩))
     go_ret;exact⟨by first|rfl|(simp;done)|(simp[*];done),by repeat(first|exact Drawn0.refl _|apply Drawn0.step)⟩
    ·rw[if_neg c9]at H;have aF:decide (a1<a0)=false:=decide_eq_false c9;clear c9;obtain rfl:=Option.some.inj H
     go_enter Try.func37,Try.ntmps37
     go_wp2_with (first|(refine gk_ 60 ?_;refine gd_ (some 8) Try.func60 (cmp_isNaN_int.calls a0 false _ A3.out) ?_;rintro w' ⟨nd,rfl⟩)|(refine gk_ 60 ?_;refine gd_ (some 10) Try.func60 (cmp_isNaN_int.calls a1 false _ A4.out) ?_;rintro w' ⟨nd,rfl⟩))
     go_ret;exact⟨by first|rfl|(simp;done)|(simp[*];done),by repeat(first|exact Drawn0.refl _|apply Drawn0.step)⟩
def bytealg_abigen_runtime_cmpstring.f (l0:List (S77)):Option ((List (S77))):=some l0
def strings_Compare.f (a0 a1:ByteArray):Option (Int):=some (Lib.compareBytes a0.data.toList a1.data.toList)
theorem strings_Compare.bytes (a b:ByteArray)(w:World):Calls Try.prog 61 #[.string a,.string b] w fun e w'=>e=.returned (.int .i64 (Lib.compareBytes a.data.toList b.data.toList))∧w'=w:=by
  go_enter Try.func61,Try.ntmps61
  go_wp2
  rw[run_callFunc_extern Try.func78 (by kernel_rfl) (by kernel_rfl) (by kernel_rfl) (e:=Extern.BytealgCompare.compare) (by kernel_rfl),Lib.run_compareString]
  simp only[Result.andThen]
  rw[Oper.upon_value]
  go_wp2
  go_ret
  exact⟨rfl,rfl⟩
theorem strings_Compare.calls (a0 a1:ByteArray)(r:Int)(w:World)(h:strings_Compare.f a0 a1=some r):
    Calls Try.prog 38 #[.string a0,.string a1] w fun e w'=>e=.returned (.int .i64 r)∧Drawn0 w w':=by
 unfold strings_Compare.f at h
 obtain rfl:=Option.some.inj h;clear h
 have e61_:∀(args:Array Value)(w:World),(callFunc 61 args).run Try.prog w=.ok (.enter 61 args) w:=fun args w=>enters_ Try.func61 (by kernel_rfl) rfl args w
 go_enter Try.func38,Try.ntmps38
 go_wp2_with (go_at_fn 61;refine(strings_Compare.bytes _ _ _).mono ?_;rintro e w' ⟨rfl,rfl⟩)
 go_ret
 first|exact⟨rfl,⟨0,rfl⟩⟩|exact⟨rfl,rfl⟩|exact⟨rfl,Below.refl _ _⟩
def elastic_List_1.f (k:Nat)(a0_0:ByteArray)(a0_1:Int)(a1_0:ByteArray)(a1_1:Int):Option (Int):=(cmp_Compare_int.f a1_1 a0_1).bind fun t298=>((strings_Compare.f a0_0 a1_0).bind fun t299=>((cmp_Or_int.f k (([t298,t299]:List Int))).bind fun t303=>(some t303)))
theorem elastic_List_1.mono:∀a0 a1 a2 a3 k,LeO (elastic_List_1.f k a0 a1 a2 a3) (elastic_List_1.f (k+1) a0 a1 a2 a3):=by
  intro a0 a1 a2 a3 k
  unfold elastic_List_1.f
  repeat' with_reducible first|exact cmp_Or_int.mono .. |exact LeO.refl _|exact LeO.none _|refine LeO.ite ?_ ?_|refine LeO.bind ?_ (fun _=>?_)
def elastic_List_1.T1:Bool × List (List Nat × List Nat):=(true,[([],[]),([0],[0]),([],[]),([2],[2]),([1,3],[1,3]),([],[]),([5],[5]),([],[]),([7],[7]),([6,8,4],[6,8]),([4,9],[4,9]),([10,9],[10]),([11,11,0,1,2,3,4,5,6,7,8,9,10,11],[11])])
def elastic_List_1.B1:List Nat:=[0,1,0,4,15,0,32,0,128,511,1023,2047,4095]
theorem elastic_List_1.tab1:rtab .any (opsOf Try.f35 1)=elastic_List_1.T1:=by kernel_rfl
theorem elastic_List_1.bits1:waitsOk elastic_List_1.T1.2 elastic_List_1.B1=true:=by kernel_rfl
theorem elastic_List_1.calls (k:Nat)(a0_0:ByteArray)(a0_1:Int)(a1_0:ByteArray)(a1_1 r:Int)(w:World)(h:elastic_List_1.f k a0_0 a0_1 a1_0 a1_1=some r):
    Calls Try.prog 35 #[.agg #[.string a0_0,.int .i64 a0_1],.agg #[.string a1_0,.int .i64 a1_1]] w fun e w'=>e=.returned (.int .i64 r)∧Below w.heap.size w w':=by
 have hu68:=Try.underlying68;have HB:=mk_ (Below.refl w.heap.size w);have H:=h;clear h;unfold elastic_List_1.f at H;replace H:=bi_ H;obtain⟨aE,A3,H⟩:=H;replace H:=bi_ H;obtain⟨aD,A4,H⟩:=H;obtain⟨y300,hy300⟩:∃y_:List Int,y_=(([aE,aD]:List Int)):=⟨_,rfl⟩
 (try replace H:=(Option.bind_some _ _).symm.trans H);(try rw[←hy300]at H)
 have aI:=mk_ hy300;clear hy300;replace H:=bi_ H;obtain⟨aF,A5,H⟩:=H;obtain rfl:=Option.some.inj H
 go_enter Try.func35,Try.ntmps35
 try go_wp2_with (first|(refine gq_ 2 ?_;refine bx_ 2 #[.string a0_0,.int .i64 a0_1] 68 ?_;intro aK hg w6 hbox hb;have aA:=mk_ (hbox);have aO:=gx_ hg HB;have aP:=gx_ hg HB;replace HB:=bs_ HB hb;clear hb hbox hg)|(refine gq_ 3 ?_;refine bx_ 3 #[.string a1_0,.int .i64 a1_1] 68 ?_;intro aL hg w7 hbox hb;have aB:=mk_ (hbox);have aQ:=gx_ hg HB;have aR:=gx_ hg HB;have aS:=nx_ hg aA;have aT:=ny_ hg aA;replace aA:=bb_ aA hb;replace HB:=bs_ HB hb;clear hb hbox hg))
 replace aA:=bd_ aA;replace aB:=bd_ aB;replace HB:=bw_ HB;generalize hD_:w7.drew=w8 at aA aB HB;refine sx_ (n:=13) (ds:=[]) hD_ (cw2_ aB (cz2_ aA)) (fun hHeld=>?_);refine with_tabW elastic_List_1.tab1 elastic_List_1.bits1 (fun HT_ HW_=>?_);clear hD_;refine p1_ 0 1 ?_
 refine p1_ 2 5 ?_
 refine p1_ 5 37 ?_
 refine p1_ 7 165 ?_
 refine t1_ 1 167 ?_
 refine t1_ 3 175 ?_
 refine t1_ 6 239 ?_
 refine t1_ 8 495 ?_
 refine oq_ 4 (some 9) 13 511 HT_ (fun K hK=>?_);refine gr_ Try.func37 (cmp_Compare_int.calls a1_1 a0_1 aE _ A3.out) ?_
 rintro e w' ⟨rfl,⟨nd,rfl⟩⟩;(try replace aB:=mk_ (blk_drewN aB.out nd));(try replace aA:=mk_ (blk_drewN aA.out nd));(try replace HB:=mk_ (pw_below_drewN HB.out nd))
 (first|replace aC:=mk_ (Kd.R_drewN aC.out nd)|replace aC:=mk_ (Kd.S_drewN aC.out nd)|replace aC:=mk_ (Kd.V_drewN aC.out nd)|skip)
 refine⟨_,rfl,?_⟩;refine hK.out _ _ hl_ (fun hHeld=>?_);clear hK K;refine nm_ 9 ?_
 refine oq_ 9 (some 14) 13 1023 HT_ (fun K hK=>?_);refine gr_ Try.func38 (strings_Compare.calls a0_0 a1_0 aD _ A4.out) ?_
 rintro e w' ⟨rfl,⟨nd,rfl⟩⟩;(try replace aB:=mk_ (blk_drewN aB.out nd));(try replace aA:=mk_ (blk_drewN aA.out nd));(try replace HB:=mk_ (pw_below_drewN HB.out nd))
 (first|replace aC:=mk_ (Kd.R_drewN aC.out nd)|replace aC:=mk_ (Kd.S_drewN aC.out nd)|replace aC:=mk_ (Kd.V_drewN aC.out nd)|skip)
 refine⟨_,rfl,?_⟩;refine hK.out _ _ hl_ (fun hHeld=>?_);clear hK K;refine nm_ 14 ?_
 refine oq_ 10 (some 15) 13 2047 HT_ (fun K hK=>?_);refine Kd.R_lit_step (Kd.int .i64) _ 3 ?hg (N:=15) ?hd (xs:=([aE,aD]:List Int)) (inner:=[.int .i64 aE,.int .i64 aD]) (ok:=fun _=>True) (okp:=fun _=>True) ?hr ?hp (fun _ hk=>hk) trivial (Below.refl _ _) (Nat.le_refl _) (by simp) ?_;(case hd=>rfl);(case hg=>rfl);(case hr=>first|(go_simp;done)|(go_simp;rfl));(case hp=>exact(Reps.one (show Kd.M (Kd.int .i64) _ _ _ aE [.int .i64 aE]from rfl) (Reps.one (show Kd.M (Kd.int .i64) _ _ _ aD [.int .i64 aD]from rfl) (Reps.none _ _))));intro aU w9 ho10 hb hg_ hnew_;clear hg_ hnew_
 (first|rw[←aI.out]at ho10|(simp only[Int.reduceToNat]at ho10;rw[←aI.out]at ho10))
 have aC:=mk_ (Kd.R_lower ho10 (below_size (bl_ HB)));replace aA:=bb_ aA hb;replace aB:=bb_ aB hb;replace HB:=bs_ HB hb;clear hb ho10;obtain⟨aM,aN,eo11⟩:=Kd.R_slice aC.out
 (first|subst eo11|(injection eo11 with f1_ f2_ f3_;have f4_:=f1_.symm;have f5_:=f3_.symm;clear f1_ f2_ f3_;subst f4_;subst f5_))
 refine hK.out _ _ hl_ (fun hHeld=>?_);clear hK K;refine nm_ 15 ?_
 refine oq_ 11 (some 16) 13 4095 HT_ (fun K hK=>?_);refine gr_ Try.func36 (cmp_Or_int.calls k _ _ y300 aF _ ?side1 ?side2 A5.out) ?_
 (case side1=>exact ck_ (Kd.R_reads' aC.out).2.2);(case side2=>exact(Kd.R_reads' aC.out).2.1);rintro e w' ⟨rfl,⟨nd,rfl⟩⟩;(try replace aB:=mk_ (blk_drewN aB.out nd));(try replace aA:=mk_ (blk_drewN aA.out nd));(try replace HB:=mk_ (pw_below_drewN HB.out nd));refine⟨_,rfl,?_⟩;refine hK.out _ _ hl_ (fun hHeld=>?_);clear hK K;refine nm_ 16 ?_
 refine p1_ 12 8191 ?_
 refine dq_ HT_ ?_
 try go_wp2
 go_ret;exact⟨er_,bl_ HB⟩
mutual
def heavy_Item_76.l0:Nat→List (S68)→Int→Int→Int→Option ((List (S68)))
  |0,_,_,_,_=>none
  |k+1,a,b,c,d=>if d<c then(heavy_Item_76.l1 k a b c d d)else(some a)
def heavy_Item_76.l1:Nat→List (S68)→Int→Int→Int→Int→Option ((List (S68)))
  |0,_,_,_,_,_=>none
  |k+1,a,b,c,d,e=>if e>b then(if 0≤e then(if e<(a.length:Int)then(if 0≤(wrap64 (e-1))then(if(wrap64 (e-1))<(a.length:Int)then((elastic_List_1.f k ((rd_T68 a e).f0) ((rd_T68 a e).f1) ((rd_T68 a (wrap64 (e-1))).f0) ((rd_T68 a (wrap64 (e-1))).f1)).bind fun t306=>(if t306<0 then(heavy_Item_76.l1 k ((a.set (e:Int).toNat (⟨(rd_T68 a (wrap64 (e-1))).f0,(rd_T68 a (wrap64 (e-1))).f1⟩:S68)).set ((wrap64 (e-1)):Int).toNat (⟨(rd_T68 a e).f0,(rd_T68 a e).f1⟩:S68)) b c d (wrap64 (e-1)))else(heavy_Item_76.l0 k a b c (wrap64 (d+1)))))else(none))else(none))else(none))else(none))else(heavy_Item_76.l0 k a b c (wrap64 (d+1)))
end
def heavy_Item_76.f (k:Nat)(l0:List (S68))(a1 a2:Int):Option ((List (S68))):=heavy_Item_76.l0 k l0 a1 a2 (wrap64 (a1+1))
theorem heavy_Item_76.mono_l:∀k,(∀y0 y1 y2 y3,LeO (heavy_Item_76.l0 k y0 y1 y2 y3) (heavy_Item_76.l0 (k+1) y0 y1 y2 y3))∧(∀y0 y1 y2 y3 y4,LeO (heavy_Item_76.l1 k y0 y1 y2 y3 y4) (heavy_Item_76.l1 (k+1) y0 y1 y2 y3 y4))
  |0=>⟨fun _ _ _ _ r h=>by simp[heavy_Item_76.l0]at h,fun _ _ _ _ _ r h=>by simp[heavy_Item_76.l1]at h⟩
  |k+1=>by
    obtain⟨ih0,ih1⟩:=heavy_Item_76.mono_l k
    refine⟨?_,?_⟩<;>intros
    all_goals first|unfold heavy_Item_76.l0|unfold heavy_Item_76.l1
    all_goals repeat' with_reducible first|exact ih0 .. |exact ih1 .. |exact elastic_List_1.mono .. |exact LeO.refl _|exact LeO.none _|refine LeO.ite ?_ ?_|refine LeO.bind ?_ (fun _=>?_)
theorem heavy_Item_76.mono:∀a0 a1 a2 k,LeO (heavy_Item_76.f k a0 a1 a2) (heavy_Item_76.f (k+1) a0 a1 a2):=by
  intro a0 a1 a2 k
  obtain⟨ih0,ih1⟩:=heavy_Item_76.mono_l k
  unfold heavy_Item_76.f
  repeat' with_reducible first|exact ih0 .. |exact ih1 .. |exact elastic_List_1.mono .. |exact LeO.refl _|exact LeO.none _|refine LeO.ite ?_ ?_|refine LeO.bind ?_ (fun _=>?_)
def heavy_Item_76.T4:Bool × List (List Nat × List Nat):=(true,[([],[]),([],[]),([0,1],[0,1]),([2],[2]),([3],[3]),([3],[3]),([3],[3]),([5,6,3],[3,5,6]),([7,3],[3,7]),([3],[3]),([3],[3]),([10,3],[3,10]),([9,11,3],[3,9,11]),([12,3],[3,12]),([4,8,13,3,3],[3,4,8,13]),([14,3],[3,14]),([3,15],[3,15])])
def heavy_Item_76.B4:List Nat:=[0,0,3,7,15,15,15,111,239,15,15,1039,3599,7695,16383,32767,65535]
theorem heavy_Item_76.tab4:rtab .any (opsOf Try.f76 4)=heavy_Item_76.T4:=by kernel_rfl
theorem heavy_Item_76.bits4:waitsOk heavy_Item_76.T4.2 heavy_Item_76.B4=true:=by kernel_rfl
def heavy_Item_76.T6:Bool × List (List Nat × List Nat):=(true,[([],[]),([],[]),([],[]),([],[]),([3],[3]),([],[]),([],[]),([6],[6]),([5,7],[5,7]),([8],[8]),([],[]),([],[]),([10,11],[10,11]),([12],[12]),([0,1,0,1,5,6,7,8,9,13],[0,1]),([14,9,0,1,5,6,7,8,9,13],[9,14]),([2,4,0,1,2,3,4,5,6,7,8,9,10,11,12,13,14,15],[2,4]),([16,13,15,0,1,2,3,4,5,6,7,8,9,10,11,12,13,14,15],[13,16])])
def heavy_Item_76.B6:List Nat:=[0,0,0,0,8,0,0,64,224,480,0,0,3072,7168,16355,32739,65535,131071]
theorem heavy_Item_76.tab6:rtab .any (opsOf Try.f76 6)=heavy_Item_76.T6:=by kernel_rfl
theorem heavy_Item_76.bits6:waitsOk heavy_Item_76.T6.2 heavy_Item_76.B6=true:=by kernel_rfl
theorem heavy_Item_76.calls (k:Nat)(P0_:Nat→Prop)(u9000_:Value)(l0:List (S68))(a1 a2:Int)(r:List (S68))(w0 w:World)(hB:Below w0.heap.size w0 w)(ho0:Kd.R k68 68 w w0.heap.size P0_ u9000_ l0)(h:heavy_Item_76.f k l0 a1 a2=some r):
    Calls Try.prog 76 #[u9000_,.int .i64 a1,.int .i64 a2,.func (.func 35) #[] #[]] w fun e w'=>e=.returned (.tuple #[])∧Kd.R k68 68 w' w0.heap.size (fun k_=>(P0_ k_∨w.heap.size≤k_)) u9000_ r∧Below w0.heap.size w0 w'∧Kept w w' (fun k_=>P0_ k_):=by
 have hu68:=Try.underlying68;have bK:=mk_ (show Kd.R k68 68 w w0.heap.size (fun k_=>(P0_ k_∨w.heap.size≤k_)) u9000_ l0 from Kd.R_mono ho0 (fun k_ hk=>(.inl hk)));have HK:=mk_ (Kept.refl w (fun k_=>P0_ k_));have HW0:=mk_ hB.size;have HB:=mk_ hB;clear hB;have H:=h;clear h;unfold heavy_Item_76.f at H;have H':=mk_ H;clear H
 go_enter Try.func76,Try.ntmps76
 go_wp2
 go_loopg [8] k (fun kq v8 w'=>∃(aP:List (S68))(aE:Int),v8=.int .i64 aE∧Aside0 (heavy_Item_76.l0 kq aP a1 a2 aE=some r)∧Aside0 (kq≤k)∧Aside0 (Kd.R k68 68 w' w0.heap.size (fun k_=>(P0_ k_∨w.heap.size≤k_)) u9000_ aP)∧Aside0 (Kept w w' (fun k_=>P0_ k_))∧Aside0 (Below w0.heap.size w0 w'))
 case atStart=>exact⟨(l0),(wrap64 (a1+1)),eq_,H',⟨Nat.le_refl _⟩,⟨rr_ bK⟩,⟨kp_ HK⟩,⟨bl_ HB⟩⟩
 case round=>
  clear H';obtain⟨aP,aE,rfl,HA,HK1,aC,HK,HB⟩:=hrel
  cases gk with
  |zero=>exact absurd HA.out (by simp[heavy_Item_76.l0])
  |succ k1=>
   have H:=HA.out;clear HA;simp only[heavy_Item_76.l0]at H
   rcases ic_ H with⟨bG,h_⟩|⟨bG,h_⟩
   ·clear H;have H:=h_;clear h_;have H':=mk_ H;clear H
    go_wp2
    go_loopg [9] k1 (fun kq v9 w'=>∃(aA:List (S68))(aB:Int),v9=.int .i64 aB∧Aside0 (heavy_Item_76.l1 kq aA a1 a2 aE aB=some r)∧Aside0 (kq≤k1)∧Aside0 (Kd.R k68 68 w' w0.heap.size (fun k_=>(P0_ k_∨w.heap.size≤k_)) u9000_ aA)∧Aside0 (Kept w w' (fun k_=>P0_ k_))∧Aside0 (Below w0.heap.size w0 w'))
    case atStart=>exact⟨(aP),(aE),eq_,H',⟨Nat.le_refl _⟩,⟨rr_ aC⟩,⟨kp_ HK⟩,⟨bl_ HB⟩⟩
    case round=>
     clear H';(try clear bG);obtain⟨aA,aB,rfl,HA,HK2,aC,HK,HB⟩:=hrel
     cases gk with
     |zero=>exact absurd HA.out (by simp[heavy_Item_76.l1])
     |succ k2=>
      have H:=HA.out;clear HA;simp only[heavy_Item_76.l1]at H
      by_cases c5:aB>a1
      ·rw[if_pos c5]at H;have bL:decide (a1<aB)=true:=decide_eq_true c5;clear c5;replace H:=it_ H;obtain⟨bU,H⟩:=H;replace H:=it_ H;obtain⟨bV,H⟩:=H;obtain⟨ji8,hji8⟩:∃j_:Int,(wrap64 (aB-1))=j_:=⟨_,rfl⟩
       (first|rw[hji8]at H|simp only[hji8]at H)
       have hji8w:(IntKind.i64.wrap (aB-1))=ji8:=(i64_w _).trans hji8;replace H:=it_ H;obtain⟨bW,H⟩:=H;replace H:=it_ H;obtain⟨bX,H⟩:=H;replace H:=bi_ H;obtain⟨aF,bI,H⟩:=H
       rcases ic_ H with⟨bM,h_⟩|⟨bM,h_⟩
       ·clear H;have H:=h_;clear h_;obtain⟨y309,hy309⟩:∃y_:List (S68),y_=(aA.set (aB:Int).toNat (⟨(rd_T68 aA (ji8)).f0,(rd_T68 aA (ji8)).f1⟩:S68)):=⟨_,rfl⟩
        (try replace H:=(Option.bind_some _ _).symm.trans H);(try rw[←hy309]at H)
        have bN:=mk_ hy309;clear hy309;obtain⟨y310,hy310⟩:∃y_:List (S68),y_=(y309.set ((ji8):Int).toNat (⟨(rd_T68 aA aB).f0,(rd_T68 aA aB).f1⟩:S68)):=⟨_,rfl⟩
        (try replace H:=(Option.bind_some _ _).symm.trans H);(try rw[←hy310]at H)
        have bO:=mk_ hy310;clear hy310;have H':=mk_ H;clear H
        try go_wp2
        replace aC:=mk_ (Kd.R_drew aC.out);replace HK:=mk_ (Kept.drew HK.out);replace HB:=bw_ HB;obtain⟨bY,bZ,eo16⟩:=Kd.R_slice aC.out
        (first|subst eo16|(injection eo16 with f1_ f2_ f3_;have f4_:=f1_.symm;have f5_:=f3_.symm;clear f1_ f2_ f3_;subst f4_;subst f5_))
        obtain⟨aG,aH,aD,e304,aI,aJ⟩:=aq_ (at_T68 (Kd.R_reads' aC.out).2.2 aB)
        cases e304;have aK:0≤((ji8):Int):=od_;have aL:(ji8)<(aA.length:Int):=od_;obtain⟨aR,e305,aM,aN⟩:=at_T68 (Kd.R_reads' aC.out).2.2 (ji8) aK aL;obtain rfl:aD=aR:=(by injection e305);replace aK:=eq_true aK;replace aL:=eq_true aL;generalize hD_:wr.drew=cA at aC HK HB aI aJ aM aN;refine sx_ (n:=17) (ds:=[]) hD_ (And.intro aI (And.intro aJ (And.intro aM (aN)))) (fun hHeld=>?_);refine with_tabW heavy_Item_76.tab4 heavy_Item_76.bits4 (fun HT_ HW_=>?_);clear hD_;refine p1_ 0 1 ?_
        refine p1_ 1 3 ?_;refine p1_ 2 7 ?_;refine p1_ 3 15 ?_;refine p1_ 4 31 ?_;refine p1_ 5 63 ?_;refine p1_ 6 127 ?_;refine p1_ 7 255 ?_;refine p1_ 9 767 ?_;refine p1_ 10 1791 ?_;refine p1_ 11 3839 ?_;refine p1_ 12 7935 ?_;refine t1_ 8 8191 ?_;refine t1_ 13 16383 ?_;refine oq_ 14 (some 32) 17 32767 HT_ (fun K hK=>?_);refine Funs.goesv_ (c:=.tmp 22) Try.func35 (by kernel_rfl) rfl #[.agg #[.string ((rd_T68 aA aB).f0),.int .i64 ((rd_T68 aA aB).f1)],.agg #[.string ((rd_T68 aA (ji8)).f0),.int .i64 ((rd_T68 aA (ji8)).f1)]] (by rfl) rfl rfl (by rfl) (by(try simp only[List.map_toArray,List.map_cons,List.map_nil]);first|done|(simp only[hji8];rfl)|rfl|(simp only[List.length_drop,List.length_take];rfl)) ?_;with_reducible refine(elastic_List_1.calls k2 ((rd_T68 aA aB).f0) ((rd_T68 aA aB).f1) ((rd_T68 aA (ji8)).f0) ((rd_T68 aA (ji8)).f1) aF _ bI.out).mono ?_
        rintro e bP ⟨rfl,hb⟩;have HS0_:=bh_ hb hHeld.1;have HS1_:=bh_ hb hHeld.2.1;have HS2_:=bh_ hb hHeld.2.2.1;have HS3_:=bh_ hb hHeld.2.2.2;refine⟨_,rfl,?_⟩;replace aC:=rb_ aC hb;replace HK:=mk_ (Kept.below (S:=(fun k_=>P0_ k_)) (kp_ HK) hb);replace HB:=bs_ HB hb;(try clear hb);refine hK.out _ _ ⟨HS0_,HS1_,HS2_,HS3_⟩ (fun hHeld=>?_);clear hK K;refine nm_ 32 ?_;refine p1_ 15 65535 ?_;refine p1_ 16 131071 ?_;refine dq_ HT_ ?_
        try go_wp2
        replace aC:=mk_ (Kd.R_drew aC.out);replace HK:=mk_ (Kept.drew HK.out);replace HB:=bw_ HB;obtain⟨aS,aT,bQ,e307,aU,aV⟩:=aq_ (at_T68 (Kd.R_reads' aC.out).2.2 (ji8));obtain rfl:aD=bQ:=(by injection e307);have aW:0≤(aB:Int):=od_;have aX:aB<(aA.length:Int):=od_;obtain⟨bR,e308,aY,aZ⟩:=at_T68 (Kd.R_reads' aC.out).2.2 aB aW aX;obtain rfl:aD=bR:=(by injection e308);replace aW:=eq_true aW;replace aX:=eq_true aX;have bA:0≤(aB:Int):=od_;have bB:(aB:Int)<((aA.length:Int):Int):=od_;obtain⟨go13,cB,eo13,bJ,gl13,cl13,HG13⟩:=Kd.R_form aC.out (by omega)
        (first|cases eo13|(injection eo13 with ea_ en_ ec_;(first|subst ea_|(injection ea_ with ea_;subst ea_));subst ec_;clear en_))
        have GB13:=mk_ bJ;have GG13:=mk_ HG13;clear bJ gl13 HG13;have HMgo13:=mk_ (show(P0_ go13∨w.heap.size≤go13)from(aC.out.1 _ rfl))
        (first|simp only[add_plain]at aI|skip)
        (first|simp only[add_plain]at aJ|skip)
        (first|simp only[add_plain]at aM|skip)
        (first|simp only[add_plain]at aN|skip)
        (first|simp only[add_plain]at aU|skip)
        (first|simp only[add_plain]at aV|skip)
        (first|simp only[add_plain]at aY|skip)
        (first|simp only[add_plain]at aZ|skip)
        obtain⟨ce13,hcl13,hM13,hcc13,hfr13⟩:=Kd.R_elem aC.out z68 (aB:Int) bA bB;obtain rfl:=k68_openM hM13;have bS:World.cell? _ ⟨go13,(aB:Int).toNat*2,none⟩=some (.string ((rd_T68 aA aB).f0)):=hcc13 0 _ rfl;have bT:World.cell? _ ⟨go13,(aB:Int).toNat*2+1,none⟩=some (.int .i64 ((rd_T68 aA aB).f1)):=hcc13 1 _ rfl;have hf13_0:World.frozen? _ ⟨go13,(aB:Int).toNat*2,none⟩=false:=hfr13 0;have hf13_1:World.frozen? _ ⟨go13,(aB:Int).toNat*2+1,none⟩=false:=hfr13 1;clear hcl13 hcc13 hfr13;(try clear hM13);replace bA:=eq_true bA;replace bB:=eq_true bB;obtain⟨ce19,hcl19,hM19,hcc19,hfr19⟩:=Kd.R_elem aC.out z68 (aB:Int) od_ (by have h_:(aB:Int)<((aA.length:Int):Int):=od_;first|exact h_|(have e_:=(Kd.R_reads' aC.out).1;omega)|simpa using h_);obtain rfl:=k68_openM hM19
        have HP19:=(Kd.R_seg aC.out (aB:Int) od_ (by have h_:(aB:Int)<((aA.length:Int):Int):=od_;first|exact h_|(have e_:=(Kd.R_reads' aC.out).1;omega)|simpa using h_) (seg:=[.string ((rd_T68 aA (ji8)).f0),.int .i64 ((rd_T68 aA (ji8)).f1)]) (j:=0) hcl19 hcc19 (show 2≤2 from by decide) (x':=(⟨(rd_T68 aA (ji8)).f0,(rd_T68 aA (ji8)).f1⟩:S68)) (k68_mkM _ _ _ (⟨(rd_T68 aA (ji8)).f0,(rd_T68 aA (ji8)).f1⟩:S68)) (fun _ hk=>hk)).1;rw[←bN.out]at HP19;have HQ19:=mk_ HP19;clear hcl19 hcc19 hfr19 hM19 HP19;have bC:0≤((ji8):Int):=od_;have bD:((ji8):Int)<((aA.length:Int):Int):=od_;obtain⟨ce14,hcl14,hM14,hcc14,hfr14⟩:=Kd.R_elem HQ19.out z68 ((ji8):Int) bC bD;obtain rfl:=k68_openM hM14;have bE:World.cell? _ ⟨go13,((ji8):Int).toNat*2,none⟩=some (.string ((rd_T68 y309 (ji8)).f0)):=hcc14 0 _ rfl;have bF:World.cell? _ ⟨go13,((ji8):Int).toNat*2+1,none⟩=some (.int .i64 ((rd_T68 y309 (ji8)).f1)):=hcc14 1 _ rfl;have hf14_0:World.frozen? _ ⟨go13,((ji8):Int).toNat*2,none⟩=false:=hfr14 0
        have hf14_1:World.frozen? _ ⟨go13,((ji8):Int).toNat*2+1,none⟩=false:=hfr14 1;clear hcl14 hcc14 hfr14;(try clear hM14);replace bC:=eq_true bC;replace bD:=eq_true bD;obtain⟨ce20,hcl20,hM20,hcc20,hfr20⟩:=Kd.R_elem HQ19.out z68 ((ji8):Int) od_ (by have h_:((ji8):Int)<((aA.length:Int):Int):=od_;first|exact h_|(have e_:=(Kd.R_reads' aC.out).1;omega)|simpa using h_);obtain rfl:=k68_openM hM20;have HP20:=(Kd.R_seg HQ19.out ((ji8):Int) od_ (by have h_:((ji8):Int)<((aA.length:Int):Int):=od_;first|exact h_|(have e_:=(Kd.R_reads' aC.out).1;omega)|simpa using h_) (seg:=[.string ((rd_T68 aA aB).f0),.int .i64 ((rd_T68 aA aB).f1)]) (j:=0) hcl20 hcc20 (show 2≤2 from by decide) (x':=(⟨(rd_T68 aA aB).f0,(rd_T68 aA aB).f1⟩:S68)) (k68_mkM _ _ _ (⟨(rd_T68 aA aB).f0,(rd_T68 aA aB).f1⟩:S68)) (fun _ hk=>hk)).1;rw[←bO.out]at HP20;have HQ20:=mk_ HP20;clear hcl20 hcc20 hfr20 hM20 HP20
        generalize hD_:bP.drew=cC at aC HK HB GG13 HQ19 HQ20 hf13_0 hf13_1 hf14_0 hf14_1 bS bT bE bF aI aJ aM aN aU aV aY aZ;refine sx_ (n:=18) (ds:=[15,17]) hD_ (And.intro aU (And.intro aV (And.intro aY (aZ)))) (fun hHeld=>?_);refine with_tabW heavy_Item_76.tab6 heavy_Item_76.bits6 (fun HT_ HW_=>?_);clear hD_;refine p1_ 0 1 ?_;refine p1_ 1 3 ?_;refine p1_ 2 7 ?_;refine p1_ 3 15 ?_;refine p1_ 4 31 ?_;refine p1_ 5 63 ?_;refine p1_ 6 127 ?_;refine p1_ 7 255 ?_;refine p1_ 8 511 ?_;refine p1_ 10 1535 ?_;refine p1_ 11 3583 ?_;refine p1_ 12 7679 ?_;refine t1_ 9 8191 ?_;refine t1_ 13 16383 ?_;refine p1_ 14 32767 ?_
        refine last_ (i:=15) (N:=none) (mB 18 65535) rfl rfl (one_of HT_.out (by kernel_rfl)) (by decide) (fun K hK=>?_);refine skip_ (w1:=?_) (by rfl) rfl ?_ ?_;rotate_left
        ·(try have hs_0:=bE);(try have hs_1:=bF);(try have hg_0:=hf14_0);(try have hg_1:=hf14_1);(try simp only[World.setCells,show k68.sz=2 from rfl,Nat.add_zero]at hs_0 hs_1 hg_0 hg_1);(try rw[World.cell?_setCell_other _ _ _ _ (by intro h;simp only[Addr.mk.injEq]at h;omega)]at hs_0);(try simp only[World.frozen?_setCell]at hg_0 hg_1);go_simp;rfl
        refine hK.out _ _ ?_;clear hK K;refine p1_ 16 131071 ?_
        refine last_ (i:=17) (N:=none) (mB 18 262143) rfl rfl (one_of HT_.out (by kernel_rfl)) (by decide) (fun K hK=>?_);refine skip_ (w1:=?_) (by rfl) rfl ?_ ?_;rotate_left
        ·(try have hs_0:=bE);(try have hs_1:=bF);(try have hg_0:=hf14_0);(try have hg_1:=hf14_1);(try simp only[World.setCells,show k68.sz=2 from rfl,Nat.add_zero]at hs_0 hs_1 hg_0 hg_1);(try rw[World.cell?_setCell_other _ _ _ _ (by intro h;simp only[Addr.mk.injEq]at h;omega)]at hs_0);(try simp only[World.frozen?_setCell]at hg_0 hg_1);go_simp;rfl
        refine hK.out _ _ ?_;clear hK K;refine dq_ HT_ ?_
        try go_wp2
        go_roundg k2
        case measure=>have:=HK1.out;have:=HK2.out;omega
        case rel=>exact⟨(y310),(ji8),(by first|rfl|(simp;done)|(simp only[←hji8]<;>(first|rfl|simp))|(simp[*];done)),H',⟨by have:=HK1.out;have:=HK2.out;omega⟩,⟨rr_ HQ20⟩,⟨by repeat(first|(with_reducible first|exact HK.out|apply Kept.alloc|apply Kept.drewN|apply Kept.drew|refine Kept.setCell ?_ HMgo13.out _|refine Kept.setCell ?_ HMgo13.out _|refine Kept.setCell ?_ HMgo13.out _|refine Kept.setCell ?_ HMgo13.out _)|exact HK.out)⟩,⟨bl_ HB⟩⟩
       ·clear H;have H:=h_;clear h_;have H':=mk_ H;clear H
        try go_wp2
        replace aC:=mk_ (Kd.R_drew aC.out);replace HK:=mk_ (Kept.drew HK.out);replace HB:=bw_ HB;obtain⟨cD,cE,eo22⟩:=Kd.R_slice aC.out
        (first|subst eo22|(injection eo22 with f1_ f2_ f3_;have f4_:=f1_.symm;have f5_:=f3_.symm;clear f1_ f2_ f3_;subst f4_;subst f5_))
        obtain⟨aG,aH,aD,e304,aI,aJ⟩:=aq_ (at_T68 (Kd.R_reads' aC.out).2.2 aB)
        cases e304;have aK:0≤((ji8):Int):=od_;have aL:(ji8)<(aA.length:Int):=od_;obtain⟨aR,e305,aM,aN⟩:=at_T68 (Kd.R_reads' aC.out).2.2 (ji8) aK aL;obtain rfl:aD=aR:=(by injection e305);replace aK:=eq_true aK;replace aL:=eq_true aL;generalize hD_:wr.drew=cF at aC HK HB aI aJ aM aN;refine sx_ (n:=17) (ds:=[]) hD_ (And.intro aI (And.intro aJ (And.intro aM (aN)))) (fun hHeld=>?_);refine with_tabW heavy_Item_76.tab4 heavy_Item_76.bits4 (fun HT_ HW_=>?_);clear hD_;refine p1_ 0 1 ?_
        refine p1_ 1 3 ?_;refine p1_ 2 7 ?_;refine p1_ 3 15 ?_;refine p1_ 4 31 ?_;refine p1_ 5 63 ?_;refine p1_ 6 127 ?_;refine p1_ 7 255 ?_;refine p1_ 9 767 ?_;refine p1_ 10 1791 ?_;refine p1_ 11 3839 ?_;refine p1_ 12 7935 ?_;refine t1_ 8 8191 ?_;refine t1_ 13 16383 ?_;refine oq_ 14 (some 32) 17 32767 HT_ (fun K hK=>?_);refine Funs.goesv_ (c:=.tmp 22) Try.func35 (by kernel_rfl) rfl #[.agg #[.string ((rd_T68 aA aB).f0),.int .i64 ((rd_T68 aA aB).f1)],.agg #[.string ((rd_T68 aA (ji8)).f0),.int .i64 ((rd_T68 aA (ji8)).f1)]] (by rfl) rfl rfl (by rfl) (by(try simp only[List.map_toArray,List.map_cons,List.map_nil]);first|done|(simp only[hji8];rfl)|rfl|(simp only[List.length_drop,List.length_take];rfl)) ?_;with_reducible refine(elastic_List_1.calls k2 ((rd_T68 aA aB).f0) ((rd_T68 aA aB).f1) ((rd_T68 aA (ji8)).f0) ((rd_T68 aA (ji8)).f1) aF _ bI.out).mono ?_
        rintro e cG ⟨rfl,hb⟩;have HS0_:=bh_ hb hHeld.1;have HS1_:=bh_ hb hHeld.2.1;have HS2_:=bh_ hb hHeld.2.2.1;have HS3_:=bh_ hb hHeld.2.2.2;refine⟨_,rfl,?_⟩;replace aC:=rb_ aC hb;replace HK:=mk_ (Kept.below (S:=(fun k_=>P0_ k_)) (kp_ HK) hb);replace HB:=bs_ HB hb;(try clear hb);refine hK.out _ _ ⟨HS0_,HS1_,HS2_,HS3_⟩ (fun hHeld=>?_);clear hK K;refine nm_ 32 ?_;refine p1_ 15 65535 ?_;refine p1_ 16 131071 ?_;refine dq_ HT_ ?_
        try go_wp2
        go_roundg k2
        case measure=>have:=HK1.out;have:=HK2.out;omega
        case rel=>exact⟨(aA),(wrap64 (aE+1)),eq_,H',⟨by have:=HK1.out;have:=HK2.out;omega⟩,⟨rr_ aC⟩,⟨kp_ HK⟩,⟨bl_ HB⟩⟩
      ·rw[if_neg c5]at H;have bL:decide (a1<aB)=false:=decide_eq_false c5;clear c5;have H':=mk_ H;clear H
       try go_wp2
       replace aC:=mk_ (Kd.R_drew aC.out);replace HK:=mk_ (Kept.drew HK.out);replace HB:=bw_ HB;refine start_ (n:=17) (S:=fun w'=>True) (ds:=[]) (mB 17 0) (by kernel_rfl) rfl rfl trivial (fun hHeld=>?_);refine with_tabW heavy_Item_76.tab4 heavy_Item_76.bits4 (fun HT_ HW_=>?_);generalize wr.drew=cH at aC HK HB hHeld ⊢;refine p1_ 0 1 ?_;refine p1_ 1 3 ?_;refine p1_ 2 7 ?_;refine p1_ 3 15 ?_;refine uq_ [(4,22),(5,23),(6,24),(7,25),(8,26),(9,27),(10,28),(11,29),(12,30),(13,31),(14,32),(15,33)] 1 17 65535 HT_ ?_;refine p1_ 16 131071 ?_;refine dq_ HT_ ?_
       try go_wp2
       go_roundg k2
       case measure=>have:=HK1.out;have:=HK2.out;omega
       case rel=>exact⟨(aA),(wrap64 (aE+1)),eq_,H',⟨by have:=HK1.out;have:=HK2.out;omega⟩,⟨rr_ aC⟩,⟨kp_ HK⟩,⟨bl_ HB⟩⟩
   ·clear H;have H:=h_;clear h_;obtain rfl:=Option.some.inj H
    go_wp2
    first|go_end0|((try simp only[Exit.inBlock,Exit.then]);refine bodyPost_ret (results_none rfl _ _ _) rfl ?_)
    exact⟨er_,by(with_reducible repeat(first|apply Kd.R_alloc|apply Kd.R_drewN|apply Kd.R_drew));exact aC.out,bl_ HB,by repeat(first|(with_reducible first|exact HK.out|apply Kept.alloc|apply Kept.drewN|apply Kept.drew)|exact HK.out)⟩
def heavy_Item_86.l0:Nat→List (S68)→Int→Int→Int→Int→Option ((List (S68)))
  |0,_,_,_,_,_=>none
  |k+1,a,b,c,d,e=>if e<d then(if 0≤(wrap64 (c+e))then(if(wrap64 (c+e))<(a.length:Int)then(if 0≤(wrap64 (b+e))then(if(wrap64 (b+e))<(a.length:Int)then(heavy_Item_86.l0 k ((a.set ((wrap64 (b+e)):Int).toNat (⟨(rd_T68 a (wrap64 (c+e))).f0,(rd_T68 a (wrap64 (c+e))).f1⟩:S68)).set ((wrap64 (c+e)):Int).toNat (⟨(rd_T68 a (wrap64 (b+e))).f0,(rd_T68 a (wrap64 (b+e))).f1⟩:S68)) b c d (wrap64 (e+1)))else(none))else(none))else(none))else(none))else(some a)
def heavy_Item_86.f (k:Nat)(l0:List (S68))(a1 a2 a3:Int):Option ((List (S68))):=heavy_Item_86.l0 k l0 a1 a2 a3 0
theorem heavy_Item_86.mono_l:∀k,(∀y0 y1 y2 y3 y4,LeO (heavy_Item_86.l0 k y0 y1 y2 y3 y4) (heavy_Item_86.l0 (k+1) y0 y1 y2 y3 y4))
  |0=>fun _ _ _ _ _ r h=>by simp[heavy_Item_86.l0]at h
  |k+1=>by
    have ih0:=heavy_Item_86.mono_l k
    · intro y0 y1 y2 y3 y4
      unfold heavy_Item_86.l0
      repeat' with_reducible first|exact ih0 .. |exact LeO.refl _|exact LeO.none _|refine LeO.ite ?_ ?_|refine LeO.bind ?_ (fun _=>?_)
theorem heavy_Item_86.mono:∀a0 a1 a2 a3 k,LeO (heavy_Item_86.f k a0 a1 a2 a3) (heavy_Item_86.f (k+1) a0 a1 a2 a3):=by
  intro a0 a1 a2 a3 k
  have ih0:=heavy_Item_86.mono_l k
  unfold heavy_Item_86.f
  repeat' with_reducible first|exact ih0 .. |exact LeO.refl _|exact LeO.none _|refine LeO.ite ?_ ?_|refine LeO.bind ?_ (fun _=>?_)
def heavy_Item_86.T3:Bool × List (List Nat × List Nat):=(true,[([],[]),([],[]),([],[]),([1,2],[1,2]),([],[]),([],[]),([],[]),([5,6],[5,6]),([],[]),([],[]),([],[]),([9,10],[9,10]),([8,11],[8,11]),([12],[12]),([],[]),([],[]),([],[]),([15,16],[15,16]),([14,17],[14,17]),([18],[18]),([0,3,0,1,2,3,8,9,10,11,12,13,19],[0,3]),([20,13,0,1,2,3,8,9,10,11,12,13,19],[13,20]),([4,7,0,1,2,3,4,5,6,7,8,9,10,11,12,13,14,15,16,17,18,19,20,21],[4,7]),([22,19,21,0,1,2,3,4,5,6,7,8,9,10,11,12,13,14,15,16,17,18,19,20,21],[19,22])])
def heavy_Item_86.B3:List Nat:=[0,0,0,6,0,0,0,96,0,0,0,1536,3840,7936,0,0,0,98304,245760,507904,1048335,2096911,4194303,8388607]
theorem heavy_Item_86.tab3:rtab .any (opsOf Try.f86 3)=heavy_Item_86.T3:=by kernel_rfl
theorem heavy_Item_86.bits3:waitsOk heavy_Item_86.T3.2 heavy_Item_86.B3=true:=by kernel_rfl
theorem heavy_Item_86.calls (k:Nat)(P0_:Nat→Prop)(u9000_:Value)(l0:List (S68))(a1 a2 a3:Int)(r:List (S68))(w0 w:World)(hB:Below w0.heap.size w0 w)(ho0:Kd.R k68 68 w w0.heap.size P0_ u9000_ l0)(h:heavy_Item_86.f k l0 a1 a2 a3=some r):
    Calls Try.prog 86 #[u9000_,.int .i64 a1,.int .i64 a2,.int .i64 a3,.func (.func 35) #[] #[]] w fun e w'=>e=.returned (.tuple #[])∧Kd.R k68 68 w' w0.heap.size (fun k_=>(P0_ k_∨w.heap.size≤k_)) u9000_ r∧Below w0.heap.size w0 w'∧Kept w w' (fun k_=>P0_ k_):=by
 have hu68:=Try.underlying68;have aU:=mk_ (show Kd.R k68 68 w w0.heap.size (fun k_=>(P0_ k_∨w.heap.size≤k_)) u9000_ l0 from Kd.R_mono ho0 (fun k_ hk=>(.inl hk)));have HK:=mk_ (Kept.refl w (fun k_=>P0_ k_));have HW0:=mk_ hB.size;have HB:=mk_ hB;clear hB;have H:(heavy_Item_86.l0 k l0 a1 a2 a3 0)=some r:=h;clear h;have H':=mk_ H;clear H
 go_enter Try.func86,Try.ntmps86
 go_wp2
 go_loopg [10] k (fun kq aV w'=>∃(aA:List (S68))(aB:Int),aV=.int .i64 aB∧Aside0 (heavy_Item_86.l0 kq aA a1 a2 a3 aB=some r)∧Aside0 (kq≤k)∧Aside0 (Kd.R k68 68 w' w0.heap.size (fun k_=>(P0_ k_∨w.heap.size≤k_)) u9000_ aA)∧Aside0 (Kept w w' (fun k_=>P0_ k_))∧Aside0 (Below w0.heap.size w0 w'))
 case atStart=>exact⟨(l0),(0),eq_,H',⟨Nat.le_refl _⟩,⟨rr_ aU⟩,⟨kp_ HK⟩,⟨bl_ HB⟩⟩
 case round=>
  clear H';obtain⟨aA,aB,rfl,HA,HK1,aC,HK,HB⟩:=hrel
  cases gk with
  |zero=>exact absurd HA.out (by simp[heavy_Item_86.l0])
  |succ k1=>
   have H:=HA.out;clear HA;simp only[heavy_Item_86.l0]at H
   rcases ic_ H with⟨aW,h_⟩|⟨aW,h_⟩
   ·clear H;have H:=h_;clear h_;obtain⟨ji6,hji6⟩:∃j_:Int,(wrap64 (a2+aB))=j_:=⟨_,rfl⟩
    (first|rw[hji6]at H|simp only[hji6]at H)
    have hji6w:(IntKind.i64.wrap (a2+aB))=ji6:=(i64_w _).trans hji6;replace H:=it_ H;obtain⟨bD,H⟩:=H;replace H:=it_ H;obtain⟨bE,H⟩:=H;obtain⟨ji9,hji9⟩:∃j_:Int,(wrap64 (a1+aB))=j_:=⟨_,rfl⟩
    (first|rw[hji9]at H|simp only[hji9]at H)
    have hji9w:(IntKind.i64.wrap (a1+aB))=ji9:=(i64_w _).trans hji9;(try simp only[hji9]at hji6);(try simp only[hji9]at hji6w);replace H:=it_ H;obtain⟨bF,H⟩:=H;replace H:=it_ H;obtain⟨bG,H⟩:=H;obtain⟨y313,hy313⟩:∃y_:List (S68),y_=(aA.set ((ji9):Int).toNat (⟨(rd_T68 aA (ji6)).f0,(rd_T68 aA (ji6)).f1⟩:S68)):=⟨_,rfl⟩
    (try replace H:=(Option.bind_some _ _).symm.trans H);(try rw[←hy313]at H)
    have aX:=mk_ hy313;clear hy313;obtain⟨y314,hy314⟩:∃y_:List (S68),y_=(y313.set ((ji6):Int).toNat (⟨(rd_T68 aA (ji9)).f0,(rd_T68 aA (ji9)).f1⟩:S68)):=⟨_,rfl⟩
    (try replace H:=(Option.bind_some _ _).symm.trans H);(try rw[←hy314]at H)
    have aY:=mk_ hy314;clear hy314;have H':=mk_ H;clear H
    try go_wp2
    replace aC:=mk_ (Kd.R_drew aC.out);replace HK:=mk_ (Kept.drew HK.out);replace HB:=bw_ HB;obtain⟨bH,bI,eo15⟩:=Kd.R_slice aC.out
    (first|subst eo15|(injection eo15 with f1_ f2_ f3_;have f4_:=f1_.symm;have f5_:=f3_.symm;clear f1_ f2_ f3_;subst f4_;subst f5_))
    obtain⟨aF,aG,aZ,e311,aH,aI⟩:=aq_ (at_T68 (Kd.R_reads' aC.out).2.2 (ji6))
    cases e311;have aJ:0≤((ji9):Int):=od_;have aK:(ji9)<(aA.length:Int):=od_;obtain⟨bA,e312,aL,aM⟩:=at_T68 (Kd.R_reads' aC.out).2.2 (ji9) aJ aK;obtain rfl:aZ=bA:=(by injection e312);replace aJ:=eq_true aJ;replace aK:=eq_true aK;have aN:0≤((ji9):Int):=od_;have aO:((ji9):Int)<((aA.length:Int):Int):=od_;obtain⟨go12,bJ,eo12,aT,gl12,cl12,HG12⟩:=Kd.R_form aC.out (by omega)
    (first|cases eo12|(injection eo12 with ea_ en_ ec_;(first|subst ea_|(injection ea_ with ea_;subst ea_));subst ec_;clear en_))
    have GB12:=mk_ aT;have GG12:=mk_ HG12;clear aT gl12 HG12;have HMgo12:=mk_ (show(P0_ go12∨w.heap.size≤go12)from(aC.out.1 _ rfl))
    (first|simp only[add_plain]at aH|skip)
    (first|simp only[add_plain]at aI|skip)
    (first|simp only[add_plain]at aL|skip)
    (first|simp only[add_plain]at aM|skip)
    obtain⟨ce12,hcl12,hM12,hcc12,hfr12⟩:=Kd.R_elem aC.out z68 ((ji9):Int) aN aO;obtain rfl:=k68_openM hM12;have bB:World.cell? _ ⟨go12,((ji9):Int).toNat*2,none⟩=some (.string ((rd_T68 aA (ji9)).f0)):=hcc12 0 _ rfl;have bC:World.cell? _ ⟨go12,((ji9):Int).toNat*2+1,none⟩=some (.int .i64 ((rd_T68 aA (ji9)).f1)):=hcc12 1 _ rfl;have hf12_0:World.frozen? _ ⟨go12,((ji9):Int).toNat*2,none⟩=false:=hfr12 0;have hf12_1:World.frozen? _ ⟨go12,((ji9):Int).toNat*2+1,none⟩=false:=hfr12 1;clear hcl12 hcc12 hfr12;(try clear hM12);replace aN:=eq_true aN;replace aO:=eq_true aO;obtain⟨ce16,hcl16,hM16,hcc16,hfr16⟩:=Kd.R_elem aC.out z68 ((ji9):Int) od_ (by have h_:((ji9):Int)<((aA.length:Int):Int):=od_;first|exact h_|(have e_:=(Kd.R_reads' aC.out).1;omega)|simpa using h_);obtain rfl:=k68_openM hM16
    have HP16:=(Kd.R_seg aC.out ((ji9):Int) od_ (by have h_:((ji9):Int)<((aA.length:Int):Int):=od_;first|exact h_|(have e_:=(Kd.R_reads' aC.out).1;omega)|simpa using h_) (seg:=[.string ((rd_T68 aA (ji6)).f0),.int .i64 ((rd_T68 aA (ji6)).f1)]) (j:=0) hcl16 hcc16 (show 2≤2 from by decide) (x':=(⟨(rd_T68 aA (ji6)).f0,(rd_T68 aA (ji6)).f1⟩:S68)) (k68_mkM _ _ _ (⟨(rd_T68 aA (ji6)).f0,(rd_T68 aA (ji6)).f1⟩:S68)) (fun _ hk=>hk)).1;rw[←aX.out]at HP16;have HQ16:=mk_ HP16;clear hcl16 hcc16 hfr16 hM16 HP16;have aP:0≤((ji6):Int):=od_;have aQ:((ji6):Int)<((aA.length:Int):Int):=od_;obtain⟨ce13,hcl13,hM13,hcc13,hfr13⟩:=Kd.R_elem HQ16.out z68 ((ji6):Int) aP aQ;obtain rfl:=k68_openM hM13;have aR:World.cell? _ ⟨go12,((ji6):Int).toNat*2,none⟩=some (.string ((rd_T68 y313 (ji6)).f0)):=hcc13 0 _ rfl;have aS:World.cell? _ ⟨go12,((ji6):Int).toNat*2+1,none⟩=some (.int .i64 ((rd_T68 y313 (ji6)).f1)):=hcc13 1 _ rfl;have hf13_0:World.frozen? _ ⟨go12,((ji6):Int).toNat*2,none⟩=false:=hfr13 0
    have hf13_1:World.frozen? _ ⟨go12,((ji6):Int).toNat*2+1,none⟩=false:=hfr13 1;clear hcl13 hcc13 hfr13;(try clear hM13);replace aP:=eq_true aP;replace aQ:=eq_true aQ;obtain⟨ce17,hcl17,hM17,hcc17,hfr17⟩:=Kd.R_elem HQ16.out z68 ((ji6):Int) od_ (by have h_:((ji6):Int)<((aA.length:Int):Int):=od_;first|exact h_|(have e_:=(Kd.R_reads' aC.out).1;omega)|simpa using h_);obtain rfl:=k68_openM hM17;have HP17:=(Kd.R_seg HQ16.out ((ji6):Int) od_ (by have h_:((ji6):Int)<((aA.length:Int):Int):=od_;first|exact h_|(have e_:=(Kd.R_reads' aC.out).1;omega)|simpa using h_) (seg:=[.string ((rd_T68 aA (ji9)).f0),.int .i64 ((rd_T68 aA (ji9)).f1)]) (j:=0) hcl17 hcc17 (show 2≤2 from by decide) (x':=(⟨(rd_T68 aA (ji9)).f0,(rd_T68 aA (ji9)).f1⟩:S68)) (k68_mkM _ _ _ (⟨(rd_T68 aA (ji9)).f0,(rd_T68 aA (ji9)).f1⟩:S68)) (fun _ hk=>hk)).1;rw[←aY.out]at HP17;have HQ17:=mk_ HP17;clear hcl17 hcc17 hfr17 hM17 HP17
    generalize hD_:wr.drew=bK at aC HK HB GG12 HQ16 HQ17 hf12_0 hf12_1 hf13_0 hf13_1 bB bC aR aS aH aI aL aM;refine sx_ (n:=24) (ds:=[21,23]) hD_ (And.intro aH (And.intro aI (And.intro aL (aM)))) (fun hHeld=>?_);refine with_tabW heavy_Item_86.tab3 heavy_Item_86.bits3 (fun HT_ HW_=>?_);clear hD_;refine p1_ 0 1 ?_;refine p1_ 1 3 ?_;refine p1_ 2 7 ?_;refine p1_ 3 15 ?_;refine p1_ 4 31 ?_;refine p1_ 5 63 ?_;refine p1_ 6 127 ?_;refine p1_ 7 255 ?_;refine p1_ 8 511 ?_;refine p1_ 9 1023 ?_;refine p1_ 10 2047 ?_;refine p1_ 11 4095 ?_;refine p1_ 12 8191 ?_;refine p1_ 14 24575 ?_;refine p1_ 15 57343 ?_;refine p1_ 16 122879 ?_;refine p1_ 17 253951 ?_;refine p1_ 18 516095 ?_;refine t1_ 13 524287 ?_;refine t1_ 19 1048575 ?_;refine p1_ 20 2097151 ?_
    refine last_ (i:=21) (N:=none) (mB 24 4194303) rfl rfl (one_of HT_.out (by kernel_rfl)) (by decide) (fun K hK=>?_);refine skip_ (w1:=?_) (by rfl) rfl ?_ ?_;rotate_left
    ·(try have hs_0:=aR);(try have hs_1:=aS);(try have hg_0:=hf13_0);(try have hg_1:=hf13_1);(try simp only[World.setCells,show k68.sz=2 from rfl,Nat.add_zero]at hs_0 hs_1 hg_0 hg_1);(try rw[World.cell?_setCell_other _ _ _ _ (by intro h;simp only[Addr.mk.injEq]at h;omega)]at hs_0);(try simp only[World.frozen?_setCell]at hg_0 hg_1);go_simp;rfl
    refine hK.out _ _ ?_;clear hK K;refine p1_ 22 8388607 ?_
    refine last_ (i:=23) (N:=none) (mB 24 16777215) rfl rfl (one_of HT_.out (by kernel_rfl)) (by decide) (fun K hK=>?_);refine skip_ (w1:=?_) (by rfl) rfl ?_ ?_;rotate_left
    ·(try have hs_0:=aR);(try have hs_1:=aS);(try have hg_0:=hf13_0);(try have hg_1:=hf13_1);(try simp only[World.setCells,show k68.sz=2 from rfl,Nat.add_zero]at hs_0 hs_1 hg_0 hg_1);(try rw[World.cell?_setCell_other _ _ _ _ (by intro h;simp only[Addr.mk.injEq]at h;omega)]at hs_0);(try simp only[World.frozen?_setCell]at hg_0 hg_1);go_simp;rfl
    refine hK.out _ _ ?_;clear hK K;refine dq_ HT_ ?_
    try go_wp2
    go_roundg k1
    case measure=>have:=HK1.out;omega
    case rel=>exact⟨(y314),(wrap64 (aB+1)),eq_,H',⟨by have:=HK1.out;omega⟩,⟨rr_ HQ17⟩,⟨by repeat(first|(with_reducible first|exact HK.out|apply Kept.alloc|apply Kept.drewN|apply Kept.drew|refine Kept.setCell ?_ HMgo12.out _|refine Kept.setCell ?_ HMgo12.out _|refine Kept.setCell ?_ HMgo12.out _|refine Kept.setCell ?_ HMgo12.out _)|exact HK.out)⟩,⟨bl_ HB⟩⟩
   ·clear H;have H:=h_;clear h_;obtain rfl:=Option.some.inj H
    go_wp2
    first|go_end0|((try simp only[Exit.inBlock,Exit.then]);refine bodyPost_ret (results_none rfl _ _ _) rfl ?_)
    exact⟨er_,by(with_reducible repeat(first|apply Kd.R_alloc|apply Kd.R_drewN|apply Kd.R_drew));exact aC.out,bl_ HB,by repeat(first|(with_reducible first|exact HK.out|apply Kept.alloc|apply Kept.drewN|apply Kept.drew)|exact HK.out)⟩
def heavy_Item_85.l0:Nat→List (S68)→Int→Int→Int→Option ((List (S68)))
  |0,_,_,_,_=>none
  |k+1,a,b,c,d=>if c=d then((heavy_Item_86.f k a (wrap64 (b-c)) b c).bind fun t315=>(some t315))else(if c>d then((heavy_Item_86.f k a (wrap64 (b-c)) b d).bind fun t316=>(heavy_Item_85.l0 k t316 b (wrap64 (c-d)) d))else((heavy_Item_86.f k a (wrap64 (b-c)) (wrap64 ((wrap64 (b+d))-c)) c).bind fun t317=>(heavy_Item_85.l0 k t317 b c (wrap64 (d-c)))))
def heavy_Item_85.f (k:Nat)(l0:List (S68))(a1 a2 a3:Int):Option ((List (S68))):=heavy_Item_85.l0 k l0 a2 (wrap64 (a2-a1)) (wrap64 (a3-a2))
theorem heavy_Item_85.mono_l:∀k,(∀y0 y1 y2 y3,LeO (heavy_Item_85.l0 k y0 y1 y2 y3) (heavy_Item_85.l0 (k+1) y0 y1 y2 y3))
  |0=>fun _ _ _ _ r h=>by simp[heavy_Item_85.l0]at h
  |k+1=>by
    have ih0:=heavy_Item_85.mono_l k
    · intro y0 y1 y2 y3
      unfold heavy_Item_85.l0
      repeat' with_reducible first|exact ih0 .. |exact heavy_Item_86.mono .. |exact LeO.refl _|exact LeO.none _|refine LeO.ite ?_ ?_|refine LeO.bind ?_ (fun _=>?_)
theorem heavy_Item_85.mono:∀a0 a1 a2 a3 k,LeO (heavy_Item_85.f k a0 a1 a2 a3) (heavy_Item_85.f (k+1) a0 a1 a2 a3):=by
  intro a0 a1 a2 a3 k
  have ih0:=heavy_Item_85.mono_l k
  unfold heavy_Item_85.f
  repeat' with_reducible first|exact ih0 .. |exact heavy_Item_86.mono .. |exact LeO.refl _|exact LeO.none _|refine LeO.ite ?_ ?_|refine LeO.bind ?_ (fun _=>?_)
theorem heavy_Item_85.calls (k:Nat)(P0_:Nat→Prop)(u9000_:Value)(l0:List (S68))(a1 a2 a3:Int)(r:List (S68))(w0 w:World)(hB:Below w0.heap.size w0 w)(ho0:Kd.R k68 68 w w0.heap.size P0_ u9000_ l0)(h:heavy_Item_85.f k l0 a1 a2 a3=some r):
    Calls Try.prog 85 #[u9000_,.int .i64 a1,.int .i64 a2,.int .i64 a3,.func (.func 35) #[] #[]] w fun e w'=>e=.returned (.tuple #[])∧Kd.R k68 68 w' w0.heap.size (fun k_=>(P0_ k_∨w.heap.size≤k_)) u9000_ r∧Below w0.heap.size w0 w'∧Kept w w' (fun k_=>P0_ k_):=by
 have aR:=mk_ (show Kd.R k68 68 w w0.heap.size (fun k_=>(P0_ k_∨w.heap.size≤k_)) u9000_ l0 from Kd.R_mono ho0 (fun k_ hk=>(.inl hk)));have HK:=mk_ (Kept.refl w (fun k_=>P0_ k_));have HW0:=mk_ hB.size;have HB:=mk_ hB;clear hB;have H:=h;clear h;unfold heavy_Item_85.f at H;have H':=mk_ H;clear H
 go_enter Try.func85,Try.ntmps85
 go_wp2
 go_loopg [10,11] k (fun kq aS aT w'=>∃(aD:List (S68))(aA aB:Int),aS=.int .i64 aA∧aT=.int .i64 aB∧Aside0 (heavy_Item_85.l0 kq aD a2 aA aB=some r)∧Aside0 (kq≤k)∧Aside0 (Kd.R k68 68 w' w0.heap.size (fun k_=>(P0_ k_∨w.heap.size≤k_)) u9000_ aD)∧Aside0 (Kept w w' (fun k_=>P0_ k_))∧Aside0 (Below w0.heap.size w0 w'))
 case atStart=>exact⟨(l0),(wrap64 (a2-a1)),(wrap64 (a3-a2)),eq_,eq_,H',⟨Nat.le_refl _⟩,⟨rr_ aR⟩,⟨kp_ HK⟩,⟨bl_ HB⟩⟩
 case round=>
  clear H';obtain⟨aD,aA,aB,rfl,rfl,HA,HK1,aC,HK,HB⟩:=hrel
  cases gk with
  |zero=>exact absurd HA.out (by simp[heavy_Item_85.l0])
  |succ k1=>
   have H:=HA.out;clear HA;simp only[heavy_Item_85.l0]at H
   by_cases c5:aA=aB
   ·rw[if_pos c5]at H;have aU:=beq_iff_eq.mpr c5;have aV:=bne_eq_false_iff_eq.mpr c5;clear c5;replace H:=bi_ H;obtain⟨aN,A6,H⟩:=H;obtain rfl:=Option.some.inj H;obtain⟨aF,aG,eo7⟩:=Kd.R_slice aC.out;subst eo7
    go_wp2_with (first|(refine gk_ 86 ?_;refine gc_ (some 57) Try.func86 (heavy_Item_86.calls k1 (fun k_=>some k_=(.slice aF aD.length aG:Value).ownBlock) (.slice aF aD.length aG) aD (wrap64 (a2-aA)) a2 aA aN w0 _ ?side1 ?side2 A6.out) ?_;(case side1=>exact bl_ HB);(case side2=>exact Kd.R_tight rfl aC.out);rintro e w8 ⟨rfl,hy0,hb,hkp⟩;refine⟨_,rfl,?_⟩;replace HK:=mk_ (Kept.then_ (S:=(fun k_=>P0_ k_)) (kp_ HK) hkp (fun k_ aE=>(fun e_=>(aC.out.1 k_ e_.symm)) aE));replace aC:=mk_ (Kd.R_reok rfl hy0 (fun k_ e_=>aC.out.1 k_ e_));replace HB:=mk_ (hb);(try clear hb);(try clear hkp);(try clear hy0)))
    first|go_end0|((try simp only[Exit.inBlock,Exit.then]);refine bodyPost_ret (results_none rfl _ _ _) rfl ?_)
    exact⟨er_,by(with_reducible repeat(first|apply Kd.R_alloc|apply Kd.R_drewN|apply Kd.R_drew));exact aC.out,bl_ HB,by repeat(first|(with_reducible first|exact HK.out|apply Kept.alloc|apply Kept.drewN|apply Kept.drew)|exact HK.out)⟩
   ·rw[if_neg c5]at H;have aU:=beq_eq_false_iff_ne.mpr c5;have aV:=bne_iff_ne.mpr c5
    by_cases c9:aA>aB
    ·rw[if_pos c9]at H;have aW:decide (aB<aA)=true:=decide_eq_true c9;clear c9;replace H:=bi_ H;obtain⟨aH,aX,H⟩:=H;have H':=mk_ H;clear H;obtain⟨aI,aJ,eo11⟩:=Kd.R_slice aC.out;subst eo11
     go_wp2_with (first|(refine gk_ 86 ?_;refine gc_ (some 31) Try.func86 (heavy_Item_86.calls k1 (fun k_=>some k_=(.slice aI aD.length aJ:Value).ownBlock) (.slice aI aD.length aJ) aD (wrap64 (a2-aA)) a2 aB aH w0 _ ?side1 ?side2 aX.out) ?_;(case side1=>exact bl_ HB);(case side2=>exact Kd.R_tight rfl aC.out);rintro e aZ ⟨rfl,hy0,hb,hkp⟩;refine⟨_,rfl,?_⟩;replace HK:=mk_ (Kept.then_ (S:=(fun k_=>P0_ k_)) (kp_ HK) hkp (fun k_ aE=>(fun e_=>(aC.out.1 k_ e_.symm)) aE));replace aC:=mk_ (Kd.R_reok rfl hy0 (fun k_ e_=>aC.out.1 k_ e_));replace HB:=mk_ (hb);(try clear hb);(try clear hkp);(try clear hy0)))
     go_roundg k1
     case measure=>have:=HK1.out;omega
     case rel=>exact⟨(aH),(wrap64 (aA-aB)),(aB),eq_,eq_,H',⟨by have:=HK1.out;omega⟩,⟨rr_ aC⟩,⟨kp_ HK⟩,⟨bl_ HB⟩⟩
    ·rw[if_neg c9]at H;have aW:decide (aB<aA)=false:=decide_eq_false c9;clear c9;replace H:=bi_ H;obtain⟨aK,aY,H⟩:=H;have H':=mk_ H;clear H;obtain⟨aL,aM,eo14⟩:=Kd.R_slice aC.out;subst eo14
     go_wp2_with (first|(refine gk_ 86 ?_;refine gc_ (some 46) Try.func86 (heavy_Item_86.calls k1 (fun k_=>some k_=(.slice aL aD.length aM:Value).ownBlock) (.slice aL aD.length aM) aD (wrap64 (a2-aA)) (wrap64 ((wrap64 (a2+aB))-aA)) aA aK w0 _ ?side1 ?side2 aY.out) ?_;(case side1=>exact bl_ HB);(case side2=>exact Kd.R_tight rfl aC.out);rintro e bA ⟨rfl,hy0,hb,hkp⟩;refine⟨_,rfl,?_⟩;replace HK:=mk_ (Kept.then_ (S:=(fun k_=>P0_ k_)) (kp_ HK) hkp (fun k_ aE=>(fun e_=>(aC.out.1 k_ e_.symm)) aE));replace aC:=mk_ (Kd.R_reok rfl hy0 (fun k_ e_=>aC.out.1 k_ e_));replace HB:=mk_ (hb);(try clear hb);(try clear hkp);(try clear hy0)))
     go_roundg k1
     case measure=>have:=HK1.out;omega
     case rel=>exact⟨(aK),(aA),(wrap64 (aB-aA)),eq_,eq_,H',⟨by have:=HK1.out;omega⟩,⟨rr_ aC⟩,⟨kp_ HK⟩,⟨bl_ HB⟩⟩
end Go.Proofs.Ytljmjjeghebdpaa.PElasticTurns
