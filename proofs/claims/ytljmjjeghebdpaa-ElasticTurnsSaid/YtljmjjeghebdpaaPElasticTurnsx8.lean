/- Functions, each as a plain function, with the proof that a call comes to its answer. Condition of each: the arguments read as the data that it names, and the plain function has an answer. -/
import Derived.Test.YtljmjjeghebdpaaPElasticTurnsx0
import Derived.Test.YtljmjjeghebdpaaPElasticTurnsx2
import Derived.Test.YtljmjjeghebdpaaPElasticTurnsx6
import Derived.Test.YtljmjjeghebdpaaPElasticTurnsx7
import Derived.Test.YtljmjjeghebdpaaShort
import Derived.Lib.SliceRun
import Derived.Test.YtljmjjeghebdpaaFuns
import Derived.Test.YtljmjjeghebdpaaPressMore
import Derived.Test.YtljmjjeghebdpaaPElasticTurnsx5
namespace Go.Proofs.Ytljmjjeghebdpaa.PElasticTurns
open Go.RowKit Go.Proofs.YtljmjjeghebdpaaW.PrintWords Go.Proofs.YtljmjjeghebdpaaW.PrintLast Go.Proofs.YtljmjjeghebdpaaW.PrintMore Go.Proofs.Ytljmjjeghebdpaa.Short Go.Proofs.Ytljmjjeghebdpaa.Press Go.Proofs.Ytljmjjeghebdpaa.PressMore
set_option maxHeartbeats 80000000
set_option maxRecDepth 100000
attribute [local go_sem] max2_int min2_int max_two min_two max_three min_three max_four min_four
set_option linter.unusedVariables false
set_option linter.unusedSimpArgs false
mutual
def heavy_Item_59.l0:Nat→List (S68)→Int→Int→Int→Int→Option ((List (S68)))
  |0,_,_,_,_,_=>none
  |k+1,a,b,c,d,e=>if e≤b then((heavy_Item_76.f k a d e).bind fun t339=>(heavy_Item_59.l0 k t339 b c e (wrap64 (e+c))))else((heavy_Item_76.f k a d b).bind fun t340=>(heavy_Item_59.l1 k t340 b c))
def heavy_Item_59.l1:Nat→List (S68)→Int→Int→Option ((List (S68)))
  |0,_,_,_=>none
  |k+1,a,b,c=>if c<b then(heavy_Item_59.l2 k a b c 0 (wrap64 (2*c)))else(some a)
def heavy_Item_59.l2:Nat→List (S68)→Int→Int→Int→Int→Option ((List (S68)))
  |0,_,_,_,_,_=>none
  |k+1,a,b,c,d,e=>if e≤b then((heavy_Item_77.f k a d (wrap64 (d+c)) e).bind fun t341=>(heavy_Item_59.l2 k t341 b c e (wrap64 (e+(wrap64 (2*c))))))else(if(wrap64 (d+c))<b then((heavy_Item_77.f k a d (wrap64 (d+c)) b).bind fun t342=>(heavy_Item_59.l1 k t342 b (wrap64 (c*2))))else(heavy_Item_59.l1 k a b (wrap64 (c*2))))
end
def heavy_Item_59.f (k:Nat)(l0:List (S68))(a1:Int):Option ((List (S68))):=heavy_Item_59.l0 k l0 a1 20 0 20
theorem heavy_Item_59.mono_l:∀k,(∀y0 y1 y2 y3 y4,LeO (heavy_Item_59.l0 k y0 y1 y2 y3 y4) (heavy_Item_59.l0 (k+1) y0 y1 y2 y3 y4))∧(∀y0 y1 y2,LeO (heavy_Item_59.l1 k y0 y1 y2) (heavy_Item_59.l1 (k+1) y0 y1 y2))∧(∀y0 y1 y2 y3 y4,LeO (heavy_Item_59.l2 k y0 y1 y2 y3 y4) (heavy_Item_59.l2 (k+1) y0 y1 y2 y3 y4))
  |0=>⟨fun _ _ _ _ _ r h=>by simp[heavy_Item_59.l0]at h,fun _ _ _ r h=>by simp[heavy_Item_59.l1]at h,fun _ _ _ _ _ r h=>by simp[heavy_Item_59.l2]at h⟩
  |k+1=>by
    obtain⟨ih0,ih1,ih2⟩:=heavy_Item_59.mono_l k
    refine⟨?_,?_,?_⟩<;>intros
    all_goals first|unfold heavy_Item_59.l0|unfold heavy_Item_59.l1|unfold heavy_Item_59.l2
    all_goals repeat' with_reducible first|exact ih0 .. |exact ih1 .. |exact ih2 .. |exact heavy_Item_76.mono .. |exact heavy_Item_77.mono .. |exact LeO.refl _|exact LeO.none _|refine LeO.ite ?_ ?_|refine LeO.bind ?_ (fun _=>?_)
theorem heavy_Item_59.mono:∀a0 a1 k,LeO (heavy_Item_59.f k a0 a1) (heavy_Item_59.f (k+1) a0 a1):=by
  intro a0 a1 k
  obtain⟨ih0,ih1,ih2⟩:=heavy_Item_59.mono_l k
  unfold heavy_Item_59.f
  repeat' with_reducible first|exact ih0 .. |exact ih1 .. |exact ih2 .. |exact heavy_Item_76.mono .. |exact heavy_Item_77.mono .. |exact LeO.refl _|exact LeO.none _|refine LeO.ite ?_ ?_|refine LeO.bind ?_ (fun _=>?_)
theorem heavy_Item_59.calls (k:Nat)(P0_:Nat→Prop)(u9000_:Value)(l0:List (S68))(a1:Int)(r:List (S68))(w0 w:World)(hB:Below w0.heap.size w0 w)(ho0:Kd.R k68 68 w w0.heap.size P0_ u9000_ l0)(h:heavy_Item_59.f k l0 a1=some r):
    Calls Try.prog 59 #[u9000_,.int .i64 a1,.func (.func 35) #[] #[]] w fun e w'=>e=.returned (.tuple #[])∧Kd.R k68 68 w' w0.heap.size (fun k_=>(P0_ k_∨w.heap.size≤k_)) u9000_ r∧Below w0.heap.size w0 w'∧Kept w w' (fun k_=>P0_ k_):=by
 have bJ:=mk_ (show Kd.R k68 68 w w0.heap.size (fun k_=>(P0_ k_∨w.heap.size≤k_)) u9000_ l0 from Kd.R_mono ho0 (fun k_ hk=>(.inl hk)));have HK:=mk_ (Kept.refl w (fun k_=>P0_ k_));have HW0:=mk_ hB.size;have HB:=mk_ hB;clear hB;have H:(heavy_Item_59.l0 k l0 a1 20 0 20)=some r:=h;clear h;have H':=mk_ H;clear H
 go_enter Try.func59,Try.ntmps59
 go_wp2
 go_loopg [7,8] k (fun kq v7 v8 w'=>∃(aE:List (S68))(aQ aG:Int),v7=.int .i64 aQ∧v8=.int .i64 aG∧Aside0 (heavy_Item_59.l0 kq aE a1 20 aQ aG=some r)∧Aside0 (kq≤k)∧Aside0 (Kd.R k68 68 w' w0.heap.size (fun k_=>(P0_ k_∨w.heap.size≤k_)) u9000_ aE)∧Aside0 (Kept w w' (fun k_=>P0_ k_))∧Aside0 (Below w0.heap.size w0 w'))
 case atStart=>exact⟨(l0),(0),(20),eq_,eq_,H',⟨Nat.le_refl _⟩,⟨rr_ bJ⟩,⟨kp_ HK⟩,⟨bl_ HB⟩⟩
 case round=>
  clear H';obtain⟨aE,aQ,aG,rfl,rfl,HA,HK1,aA,HK,HB⟩:=hrel
  cases gk with
  |zero=>exact absurd HA.out (by simp[heavy_Item_59.l0])
  |succ k1=>
   have H:=HA.out;clear HA;simp only[heavy_Item_59.l0]at H
   rcases ic_ H with⟨aX,h_⟩|⟨aX,h_⟩
   ·clear H;have H:=h_;clear h_;replace H:=bi_ H;obtain⟨aY,A4,H⟩:=H;have H':=mk_ H;clear H;obtain⟨aZ,bA,eo5⟩:=Kd.R_slice aA.out;subst eo5
    go_wp2_with (first|(refine gk_ 76 ?_;refine gc_ (some 18) Try.func76 (heavy_Item_76.calls k1 (fun k_=>some k_=(.slice aZ aE.length bA:Value).ownBlock) (.slice aZ aE.length bA) aE aQ aG aY w0 _ ?side1 ?side2 A4.out) ?_;(case side1=>exact bl_ HB);(case side2=>exact Kd.R_tight rfl aA.out);rintro e w6 ⟨rfl,hy0,hb,hkp⟩;refine⟨_,rfl,?_⟩;replace HK:=mk_ (Kept.then_ (S:=(fun k_=>P0_ k_)) (kp_ HK) hkp (fun k_ aR=>(fun e_=>(aA.out.1 k_ e_.symm)) aR));replace aA:=mk_ (Kd.R_reok rfl hy0 (fun k_ e_=>aA.out.1 k_ e_));replace HB:=mk_ (hb);(try clear hb);(try clear hkp);(try clear hy0)))
    go_roundg k1
    case measure=>have:=HK1.out;omega
    case rel=>exact⟨(aY),(aG),(wrap64 (aG+20)),eq_,eq_,H',⟨by have:=HK1.out;omega⟩,⟨rr_ aA⟩,⟨kp_ HK⟩,⟨bl_ HB⟩⟩
   ·clear H;have H:=h_;clear h_;replace H:=bi_ H;obtain⟨bB,A7,H⟩:=H;have H':=mk_ H;clear H;obtain⟨aJ,aK,eo8⟩:=Kd.R_slice aA.out;subst eo8
    go_wp2_with (first|(refine gk_ 76 ?_;refine gc_ (some 27) Try.func76 (heavy_Item_76.calls k1 (fun k_=>some k_=(.slice aJ aE.length aK:Value).ownBlock) (.slice aJ aE.length aK) aE aQ a1 bB w0 _ ?side1 ?side2 A7.out) ?_;(case side1=>exact bl_ HB);(case side2=>exact Kd.R_tight rfl aA.out);rintro e w9 ⟨rfl,hy0,hb,hkp⟩;refine⟨_,rfl,?_⟩;replace HK:=mk_ (Kept.then_ (S:=(fun k_=>P0_ k_)) (kp_ HK) hkp (fun k_ aR=>(fun e_=>(aA.out.1 k_ e_.symm)) aR));replace aA:=mk_ (Kd.R_reok rfl hy0 (fun k_ e_=>aA.out.1 k_ e_));replace HB:=mk_ (hb);(try clear hb);(try clear hkp);(try clear hy0)))
    (try simp only[Act.put,sa_,sb_,sc_])
    go_loopg [6] k1 (fun kq v6 w'=>∃(aW:List (S68))(aC:Int),v6=.int .i64 aC∧Aside0 (heavy_Item_59.l1 kq aW a1 aC=some r)∧Aside0 (kq≤k1)∧Aside0 (Kd.R k68 68 w' w0.heap.size (fun k_=>(P0_ k_∨w.heap.size≤k_)) (.slice aJ aE.length aK) aW)∧Aside0 (Kept w w' (fun k_=>P0_ k_))∧Aside0 (Below w0.heap.size w0 w'))
    case atStart=>exact⟨(bB),(20),eq_,H',⟨Nat.le_refl _⟩,⟨rr_ aA⟩,⟨kp_ HK⟩,⟨bl_ HB⟩⟩
    case round=>
     clear H';(try clear aX);obtain⟨aW,aC,rfl,HA,HK2,aA,HK,HB⟩:=hrel;have aM:=(Kd.R_reads' aA.out).1;rw[aM]at aA;(try simp only[aM])
     cases gk with
     |zero=>exact absurd HA.out (by simp[heavy_Item_59.l1])
     |succ k2=>
      have H:=HA.out;clear HA;simp only[heavy_Item_59.l1]at H
      rcases ic_ H with⟨bG,h_⟩|⟨bG,h_⟩
      ·clear H;have H:=h_;clear h_;have H':=mk_ H;clear H
       go_wp2
       go_loopg [7,8] k2 (fun kq v7 v8 w'=>∃(aH:List (S68))(aD aI:Int),v7=.int .i64 aD∧v8=.int .i64 aI∧Aside0 (heavy_Item_59.l2 kq aH a1 aC aD aI=some r)∧Aside0 (kq≤k2)∧Aside0 (Kd.R k68 68 w' w0.heap.size (fun k_=>(P0_ k_∨w.heap.size≤k_)) (.slice aJ aW.length aK) aH)∧Aside0 (Kept w w' (fun k_=>P0_ k_))∧Aside0 (Below w0.heap.size w0 w'))
       case atStart=>exact⟨(aW),(0),(wrap64 (2*aC)),eq_,eq_,H',⟨Nat.le_refl _⟩,⟨by(try simp only[aM]);(with_reducible repeat(first|apply Kd.R_alloc|apply Kd.R_drewN|apply Kd.R_drew));exact aA.out⟩,⟨kp_ HK⟩,⟨bl_ HB⟩⟩
       case round=>
        clear H';(try clear aX);(try clear bG);obtain⟨aH,aD,aI,rfl,rfl,HA,HK3,aA,HK,HB⟩:=hrel;have aN:=(Kd.R_reads' aA.out).1;rw[aN]at aA;(try simp only[aN])
        cases gk with
        |zero=>exact absurd HA.out (by simp[heavy_Item_59.l2])
        |succ k3=>
         have H:=HA.out;clear HA;simp only[heavy_Item_59.l2]at H
         rcases ic_ H with⟨bK,h_⟩|⟨bK,h_⟩
         ·clear H;have H:=h_;clear h_;replace H:=bi_ H;obtain⟨bC,bL,H⟩:=H;have H':=mk_ H;clear H
          go_wp2_with (first|(refine gk_ 77 ?_;refine gc_ (some 43) Try.func77 (heavy_Item_77.calls k3 (fun k_=>some k_=(.slice aJ aH.length aK:Value).ownBlock) (.slice aJ aH.length aK) aH aD (wrap64 (aD+aC)) aI bC w0 _ ?side1 ?side2 bL.out) ?_;(case side1=>exact bl_ HB);(case side2=>exact Kd.R_tight rfl aA.out);rintro e bO ⟨rfl,hy0,hb,hkp⟩;refine⟨_,rfl,?_⟩;replace HK:=mk_ (Kept.then_ (S:=(fun k_=>P0_ k_)) (kp_ HK) hkp (fun k_ aR=>(fun e_=>(aA.out.1 k_ e_.symm)) aR));replace aA:=mk_ (Kd.R_reok rfl hy0 (fun k_ e_=>aA.out.1 k_ e_));replace HB:=mk_ (hb);(try clear hb);(try clear hkp);(try clear hy0)))
          (try simp only[←aN])
          go_roundg k3
          case measure=>have:=HK1.out;have:=HK2.out;have:=HK3.out;omega
          case rel=>exact⟨(bC),(aI),(wrap64 (aI+(wrap64 (2*aC)))),eq_,eq_,H',⟨by have:=HK1.out;have:=HK2.out;have:=HK3.out;omega⟩,⟨by(try simp only[aM]);(try simp only[aN]);(with_reducible repeat(first|apply Kd.R_alloc|apply Kd.R_drewN|apply Kd.R_drew));exact aA.out⟩,⟨kp_ HK⟩,⟨bl_ HB⟩⟩
         ·clear H;have H:=h_;clear h_
          rcases ic_ H with⟨bM,h_⟩|⟨bM,h_⟩
          ·clear H;have H:=h_;clear h_;replace H:=bi_ H;obtain⟨bD,bN,H⟩:=H;have H':=mk_ H;clear H
           go_wp2_with (first|(refine gk_ 77 ?_;refine gc_ (some 60) Try.func77 (heavy_Item_77.calls k3 (fun k_=>some k_=(.slice aJ aH.length aK:Value).ownBlock) (.slice aJ aH.length aK) aH aD (wrap64 (aD+aC)) a1 bD w0 _ ?side1 ?side2 bN.out) ?_;(case side1=>exact bl_ HB);(case side2=>exact Kd.R_tight rfl aA.out);rintro e bP ⟨rfl,hy0,hb,hkp⟩;refine⟨_,rfl,?_⟩;replace HK:=mk_ (Kept.then_ (S:=(fun k_=>P0_ k_)) (kp_ HK) hkp (fun k_ aR=>(fun e_=>(aA.out.1 k_ e_.symm)) aR));replace aA:=mk_ (Kd.R_reok rfl hy0 (fun k_ e_=>aA.out.1 k_ e_));replace HB:=mk_ (hb);(try clear hb);(try clear hkp);(try clear hy0)))
           (try simp only[←aM,←aN])
           go_roundg k3
           case measure=>have:=HK1.out;have:=HK2.out;have:=HK3.out;omega
           case rel=>exact⟨(bD),(wrap64 (aC*2)),eq_,H',⟨by have:=HK1.out;have:=HK2.out;have:=HK3.out;omega⟩,⟨by(try simp only[aM]);(try simp only[aN]);(with_reducible repeat(first|apply Kd.R_alloc|apply Kd.R_drewN|apply Kd.R_drew));exact aA.out⟩,⟨kp_ HK⟩,⟨bl_ HB⟩⟩
          ·clear H;have H:=h_;clear h_;have H':=mk_ H;clear H
           go_wp2
           (try simp only[←aM,←aN])
           go_roundg k3
           case measure=>have:=HK1.out;have:=HK2.out;have:=HK3.out;omega
           case rel=>exact⟨(aH),(wrap64 (aC*2)),eq_,H',⟨by have:=HK1.out;have:=HK2.out;have:=HK3.out;omega⟩,⟨by(try simp only[aM]);(try simp only[aN]);(with_reducible repeat(first|apply Kd.R_alloc|apply Kd.R_drewN|apply Kd.R_drew));exact aA.out⟩,⟨kp_ HK⟩,⟨bl_ HB⟩⟩
      ·clear H;have H:=h_;clear h_;obtain rfl:=Option.some.inj H
       go_wp2
       first|go_end0|((try simp only[Exit.inBlock,Exit.then]);refine bodyPost_ret (results_none rfl _ _ _) rfl ?_)
       exact⟨er_,(by first|exact(rk_ aA)|(simp only[aM];exact(rk_ aA))),bl_ HB,by repeat(first|(with_reducible first|exact HK.out|apply Kept.alloc|apply Kept.drewN|apply Kept.drew)|exact HK.out)⟩
def heavy_Item_34.f (k:Nat)(l0:List (S68)):Option ((List (S68))):=(heavy_Item_59.f k l0 (l0.length:Int)).bind fun t343=>(some t343)
theorem heavy_Item_34.mono:∀a0 k,LeO (heavy_Item_34.f k a0) (heavy_Item_34.f (k+1) a0):=by
  intro a0 k
  unfold heavy_Item_34.f
  repeat' with_reducible first|exact heavy_Item_59.mono .. |exact LeO.refl _|exact LeO.none _|refine LeO.ite ?_ ?_|refine LeO.bind ?_ (fun _=>?_)
theorem heavy_Item_34.calls (k:Nat)(P0_:Nat→Prop)(u9000_:Value)(l0 r:List (S68))(w0 w:World)(hB:Below w0.heap.size w0 w)(ho0:Kd.R k68 68 w w0.heap.size P0_ u9000_ l0)(h:heavy_Item_34.f k l0=some r):
    Calls Try.prog 34 #[u9000_,.func (.func 35) #[] #[]] w fun e w'=>e=.returned (.tuple #[])∧Kd.R k68 68 w' w0.heap.size (fun k_=>(P0_ k_∨w.heap.size≤k_)) u9000_ r∧Below w0.heap.size w0 w'∧Kept w w' (fun k_=>P0_ k_):=by
 have aA:=mk_ (show Kd.R k68 68 w w0.heap.size (fun k_=>(P0_ k_∨w.heap.size≤k_)) u9000_ l0 from Kd.R_mono ho0 (fun k_ hk=>(.inl hk)));have HK:=mk_ (Kept.refl w (fun k_=>P0_ k_));have HW0:=mk_ hB.size;have HB:=mk_ hB;clear hB;have H:=h;clear h;unfold heavy_Item_34.f at H;replace H:=bi_ H;obtain⟨aC,A2,H⟩:=H;obtain rfl:=Option.some.inj H;obtain⟨aD,aE,eo3⟩:=Kd.R_slice aA.out;subst eo3
 go_enter Try.func34,Try.ntmps34
 go_wp2_with (first|(refine gk_ 59 ?_;refine gc_ (some 8) Try.func59 (heavy_Item_59.calls k (fun k_=>some k_=(.slice aD l0.length aE:Value).ownBlock) (.slice aD l0.length aE) l0 (l0.length:Int) aC w0 _ ?side1 ?side2 A2.out) ?_;(case side1=>exact bl_ HB);(case side2=>exact Kd.R_tight rfl aA.out);rintro e w4 ⟨rfl,hy0,hb,hkp⟩;refine⟨_,rfl,?_⟩;replace HK:=mk_ (Kept.then_ (S:=(fun k_=>P0_ k_)) (kp_ HK) hkp (fun k_ aH=>(fun e_=>(aA.out.1 k_ e_.symm)) aH));replace aA:=mk_ (Kd.R_reok rfl hy0 (fun k_ e_=>aA.out.1 k_ e_));replace HB:=mk_ (hb);(try clear hb);(try clear hkp);(try clear hy0)))
 first|go_end0|((try simp only[Exit.inBlock,Exit.then]);refine bodyPost_ret (results_none rfl _ _ _) rfl ?_)
 exact⟨er_,by(with_reducible repeat(first|apply Kd.R_alloc|apply Kd.R_drewN|apply Kd.R_drew));exact aA.out,bl_ HB,by repeat(first|(with_reducible first|exact HK.out|apply Kept.alloc|apply Kept.drewN|apply Kept.drew)|exact HK.out)⟩
mutual
def elastic_List.l0:Nat→Int→List (S68)→List (S56)→Int→Int→Option ((List (S68)))
  |0,_,_,_,_,_=>none
  |k+1,a,b,c,d,e=>if e<d then(if 0≤e then(if e<(c.length:Int)then(elastic_List.l1 k a b c d e ((rd_T56 c e).f0) (((rd_T56 c e).f0).length:Int) 0)else(none))else(none))else((heavy_Item_34.f k b).bind fun t346=>(some t346))
def elastic_List.l1:Nat→Int→List (S68)→List (S56)→Int→Int→List (S76)→Int→Int→Option ((List (S68)))
  |0,_,_,_,_,_,_,_,_=>none
  |k+1,a,b,c,d,e,f,g,h=>if h<g then(if 0≤h then(if h<(f.length:Int)then(if((rd_T76 f h).f1)≥a then(if b.length<5864062014805 then(elastic_List.l1 k a (b++[(⟨(rd_T76 f h).f0,(rd_T76 f h).f1⟩:S68)]) c d e f g (wrap64 (h+1)))else(none))else(elastic_List.l1 k a b c d e f g (wrap64 (h+1))))else(none))else(none))else(elastic_List.l0 k a b c d (wrap64 (e+1)))
end
def elastic_List.f (k:Nat)(a0_0 a0_1 a0_2:Int)(l0_3:List (S56))(a0_4 a0_5:Int)(l0_6:List (List Int))(a1:Int):Option ((List (S68))):=(elastic_Right.f k a0_0 a0_1 a0_2 l0_3 a0_4 a0_5 l0_6).bind fun t345=>(if t345=true then(elastic_List.l0 k a1 ([]:List (S68)) l0_3 (l0_3.length:Int) 0)else(some ([]:List (S68))))
theorem elastic_List.mono_l:∀k,(∀y0 y1 y2 y3 y4,LeO (elastic_List.l0 k y0 y1 y2 y3 y4) (elastic_List.l0 (k+1) y0 y1 y2 y3 y4))∧(∀y0 y1 y2 y3 y4 y5 y6 y7,LeO (elastic_List.l1 k y0 y1 y2 y3 y4 y5 y6 y7) (elastic_List.l1 (k+1) y0 y1 y2 y3 y4 y5 y6 y7))
  |0=>⟨fun _ _ _ _ _ r h=>by simp[elastic_List.l0]at h,fun _ _ _ _ _ _ _ _ r h=>by simp[elastic_List.l1]at h⟩
  |k+1=>by
    obtain⟨ih0,ih1⟩:=elastic_List.mono_l k
    refine⟨?_,?_⟩<;>intros
    all_goals first|unfold elastic_List.l0|unfold elastic_List.l1
    all_goals repeat' with_reducible first|exact ih0 .. |exact ih1 .. |exact elastic_Right.mono .. |exact heavy_Item_34.mono .. |exact LeO.refl _|exact LeO.none _|refine LeO.ite ?_ ?_|refine LeO.bind ?_ (fun _=>?_)
theorem elastic_List.mono:∀a0 a1 a2 a3 a4 a5 a6 a7 k,LeO (elastic_List.f k a0 a1 a2 a3 a4 a5 a6 a7) (elastic_List.f (k+1) a0 a1 a2 a3 a4 a5 a6 a7):=by
  intro a0 a1 a2 a3 a4 a5 a6 a7 k
  obtain⟨ih0,ih1⟩:=elastic_List.mono_l k
  unfold elastic_List.f
  repeat' with_reducible first|exact ih0 .. |exact ih1 .. |exact elastic_Right.mono .. |exact heavy_Item_34.mono .. |exact LeO.refl _|exact LeO.none _|refine LeO.ite ?_ ?_|refine LeO.bind ?_ (fun _=>?_)
theorem elastic_List.calls (k:Nat)(a0_0 a0_1 a0_2:Int)(A0_3:Option Addr)(c0_3:Nat)(l0_3:List (S56))(a0_4 a0_5:Int)(A0_6:Option Addr)(c0_6:Nat)(l0_6:List (List Int))(a1:Int)(r:List (S68))(w:World)(hr0_3:Kd.C k56 w A0_3 l0_3.length l0_3)(hc0_3:l0_3.length≤c0_3)(hr0_6:Kd.C (Kd.slice 3 (Kd.int .i64)) w A0_6 l0_6.length l0_6)(hc0_6:l0_6.length≤c0_6)(h:elastic_List.f k a0_0 a0_1 a0_2 l0_3 a0_4 a0_5 l0_6 a1=some r):
    Calls Try.prog 13 #[.agg #[.int .u64 a0_0,.int .i64 a0_1,.int .i64 a0_2,.slice A0_3 l0_3.length c0_3,.int .u64 a0_4,.int .i64 a0_5,.slice A0_6 l0_6.length c0_6],.int .i64 a1] w fun e w'=>∃v0_:Value,e=.returned (v0_)∧Kd.R k68 68 w' w.heap.size (fun _=>True) v0_ r∧Below w.heap.size w w':=by
 have hu28:=Try.underlying28;have hu56:=Try.underlying56;have hu76:=Try.underlying76;have hu68:=Try.underlying68;have bL:=mk_ hr0_3;have bT:=mk_ hc0_3;clear hr0_3 hc0_3;have bU:=mk_ hr0_6;have bV:=mk_ hc0_6;clear hr0_6 hc0_6;have HB:=mk_ (Below.refl w.heap.size w);have H:=h;clear h;unfold elastic_List.f at H;replace H:=bi_ H;obtain⟨bD,A3,H⟩:=H
 by_cases c4:bD=true
 ·subst c4
  rw[if_pos rfl]at H;have H':=mk_ H;clear H
  go_enter Try.func13,Try.ntmps13
  go_wp2_with (first|(refine gq_ 2 ?_;refine bx_ 2 #[.int .u64 a0_0,.int .i64 a0_1,.int .i64 a0_2,.slice A0_3 l0_3.length c0_3,.int .u64 a0_4,.int .i64 a0_5,.slice A0_6 l0_6.length c0_6] 28 ?_;intro aE hg w5 hbox hb;have aA:=mk_ (hbox);have dI:=gx_ hg HB;have bX:=gx_ hg HB;replace HB:=bs_ HB hb;clear hb hbox hg;have:=cz7_ aA;have:=fz7_ aA)|(refine gk_ 15 ?_;refine gd_ (some 11) Try.func15 (elastic_Right.calls k a0_0 a0_1 a0_2 _ _ l0_3 a0_4 a0_5 _ _ l0_6 true _ ?side1 ?side2 ?side3 ?side4 A3.out) ?_;(case side1=>exact ck_ (Kd.C_below bL.out HB.out));(case side2=>exact bT.out);(case side3=>exact ck_ (Kd.C_below bU.out HB.out));(case side4=>exact bV.out);intro w7 hb;replace aA:=bb_ aA hb;replace HB:=bs_ HB hb;(try clear hb);have:=cz7_ aA;have:=fz7_ aA))
  (try simp only[Act.put,sa_,sb_,sc_])
  go_loopg [5,16] k (fun kq v5 dJ w'=>∃(aN:List (S68))(aC:Int),dJ=.int .i64 aC∧Aside0 (elastic_List.l0 kq a1 aN l0_3 (l0_3.length:Int) aC=some r)∧Aside0 (kq≤k)∧Aside0 (Kd.R k68 68 w' w.heap.size (fun _=>True) v5 aN)∧Aside0 (w'.heap[aE]? =some (.cells #[.int .u64 a0_0,.int .i64 a0_1,.int .i64 a0_2,(.slice A0_3 l0_3.length c0_3),.int .u64 a0_4,.int .i64 a0_5,(.slice A0_6 l0_6.length c0_6)] 28 (0,0)))∧Aside0 (Below w.heap.size w w'))
  case atStart=>exact⟨(([]:List (S68))),(0),eq_,H',⟨Nat.le_refl _⟩,⟨by first|exact Kd.R_nil _ _ _ _ _|exact Kd.N_nil _ _ _ _ _|exact Kd.V_nil _ _ _ _ _|exact Kd.Q_nil _ _ _ _ _|exact Kd.S_nil _ _ _ _ _⟩,⟨bk_ aA⟩,⟨bl_ HB⟩⟩
  case round=>
   clear H';(try clear c4);obtain⟨aN,aC,rfl,HA,HK1,aG,aA,HB⟩:=hrel
   cases gk with
   |zero=>exact absurd HA.out (by simp[elastic_List.l0])
   |succ k1=>
    have H:=HA.out;clear HA;simp only[elastic_List.l0]at H
    rcases ic_ H with⟨dA,h_⟩|⟨dA,h_⟩
    ·clear H;have H:=h_;clear h_;replace H:=it_ H;obtain⟨dK,H⟩:=H;replace H:=it_ H;obtain⟨dL,H⟩:=H;have H':=mk_ H;clear H;obtain⟨bE,bF,dB,A347_0,c347_0,e347,bG,bH,dC,hi347_0⟩:=aq_ (at_T56 bL.out aC)
     cases e347;(try replace bG:=bt_ HB bG);(try replace bH:=bt_ HB bH);have dD:=mk_ hi347_0;have fB:=mk_ dC;clear hi347_0 dC
     go_wp2_with (first|(refine gq_ 7 ?_;refine bx_ 7 #[.slice none 0 0,.int .i64 0] 56 ?_;intro aY hg dE hbox hb;have aH:=mk_ (hbox);have fC:=gx_ hg HB;have fD:=gx_ hg HB;have bM:=nx_ hg aA;have dM:=ny_ hg aA;replace aG:=rb_ aG hb;replace aA:=bb_ aA hb;replace HB:=bs_ HB hb;clear hb hbox hg;have fE:=dM.out;have fF:=bM.out;have:=cz2_ aH;have:=fz2_ aH))
     (try simp only[Act.put,sa_,sb_,sc_])
     go_loopg [5,23] k1 (fun kq v5 dR w'=>∃(aQ:List (S68))(aD:Int),dR=.int .i64 aD∧Aside0 (elastic_List.l1 kq a1 aQ l0_3 (l0_3.length:Int) aC ((rd_T56 l0_3 aC).f0) (((rd_T56 l0_3 aC).f0).length:Int) aD=some r)∧Aside0 (kq≤k1)∧Aside0 (Kd.R k68 68 w' w.heap.size (fun _=>True) v5 aQ)∧Aside0 (w'.heap[aE]? =some (.cells #[.int .u64 a0_0,.int .i64 a0_1,.int .i64 a0_2,(.slice (some dB) l0_3.length c0_3),.int .u64 a0_4,.int .i64 a0_5,(.slice A0_6 l0_6.length c0_6)] 28 (0,0)))∧Aside0 (w'.heap[aY]? =some (.cells #[(.slice A347_0 ((rd_T56 l0_3 aC).f0).length c347_0),.int .i64 ((rd_T56 l0_3 aC).f1)] 56 (0,0)))∧Aside0 (Below w.heap.size w w'))
     case atStart=>exact⟨(aN),(0),eq_,H',⟨Nat.le_refl _⟩,⟨by(with_reducible repeat(first|apply Kd.R_alloc|apply Kd.R_drewN|apply Kd.R_drew));exact Kd.R_mono (rf_ aY (Kd.R_types aG.out aH.out (by decide)) (fun _ hk=>hk.2)) (fun _ hk=>trivial)⟩,⟨fb_⟩,⟨pt_ aH⟩,⟨bl_ HB⟩⟩
     case round=>
      clear H';(try clear c4);(try clear dA);(try clear dK);(try clear dL);(try clear bG);(try clear bH);(try clear bE);(try clear bF);obtain⟨aQ,aD,rfl,HA,HK2,aG,aA,aH,HB⟩:=hrel
      cases gk with
      |zero=>exact absurd HA.out (by simp[elastic_List.l1])
      |succ k2=>
       have H:=HA.out;clear HA;simp only[elastic_List.l1]at H
       rcases ic_ H with⟨dS,h_⟩|⟨dS,h_⟩
       ·clear H;have H:=h_;clear h_;replace H:=it_ H;obtain⟨fH,H⟩:=H;replace H:=it_ H;obtain⟨fI,H⟩:=H
        by_cases bA:((rd_T76 ((rd_T56 l0_3 aC).f0) aD).f1)≥a1
        ·rw[if_pos bA]at H;have dT:decide (a1≤((rd_T76 ((rd_T56 l0_3 aC).f0) aD).f1))=true:=decide_eq_true bA;clear bA;replace H:=ip_ H;obtain⟨bK,H⟩:=H;have dU:=mk_ bK;clear bK;obtain⟨y351,hy351⟩:∃y_:List (S68),y_=(aQ++[(⟨(rd_T76 ((rd_T56 l0_3 aC).f0) aD).f0,(rd_T76 ((rd_T56 l0_3 aC).f0) aD).f1⟩:S68)]):=⟨_,rfl⟩
         (try replace H:=(Option.bind_some _ _).symm.trans H);(try rw[←hy351]at H)
         have dV:=mk_ hy351;clear hy351;have H':=mk_ H;clear H;obtain⟨aR,aT,dF,e349,aU,aV,aW⟩:=aq_ (at_T76 dD.out aD)
         cases e349;(try replace aU:=bt_ HB aU);(try replace aV:=bt_ HB aV);(try replace aW:=bt_ HB aW)
         go_wp2_with (first|(refine gq_ 9 ?_;refine bx_ 9 #[.string (⟨#[]⟩:ByteArray),.int .i64 0,.bool false] 76 ?_;intro aJ hg bN hbox hb;have aI:=mk_ (hbox);have dW:=gx_ hg HB;have dX:=gx_ hg HB;have aK:=nx_ hg aA;have:=aK.out;have bO:=ny_ hg aA;have:=bO.out;have aM:=nx_ hg aH;have:=aM.out;have bP:=ny_ hg aH;have:=bP.out;replace aG:=rb_ aG hb;replace aA:=bb_ aA hb;replace aH:=bb_ aH hb;replace HB:=bs_ HB hb;clear hb hbox hg;have:=cz3_ aI;have:=fz3_ aI)|((with_reducible refine gate_builtin (b:=.append) (xs:=#[.tmp 31,.tmp 37]) rfl ?_);at_builtin;refine Kd.R_append k68 (w0:=w) w.heap.size rfl (.tmp 31) (.tmp 37) 41 68 (.agg #[(.string ⟨#[]⟩),(.int .i64 0)]) 24 rfl Try.underlying41 info68 rfl (by decide) (by omega) u5 aQ (⟨(rd_T76 ((rd_T56 l0_3 aC).f0) aD).f0,(rd_T76 ((rd_T56 l0_3 aC).f0) aD).f1⟩:S68) [.string ((rd_T76 ((rd_T56 l0_3 aC).f0) aD).f0),.int .i64 ((rd_T76 ((rd_T56 l0_3 aC).f0) aD).f1)] (fun _=>True) (fun _=>False) rfl (by first|(go_simp;done)|(go_simp;rfl)) ?aP (fun _ hk=>hk.elim) ?aF ?aO ?aB ?aS ?aL ?_;(case aP=>exact k68_mkM _ _ _ (⟨(rd_T76 ((rd_T56 l0_3 aC).f0) aD).f0,(rd_T76 ((rd_T56 l0_3 aC).f0) aD).f1⟩:S68));(case aB=>exact(bl_ HB));(case aF=>exact(fun _ _=>trivial));(case aO=>exact(by(with_reducible repeat(first|apply Kd.R_alloc|apply Kd.R_drewN|apply Kd.R_drew));exact Kd.R_mono (rf_ aJ (Kd.R_types aG.out aI.out (by decide)) (fun _ hk=>hk.2)) (fun _ hk=>trivial)));(case aS=>exact(below_size (bl_ HB)));(case aL=>have:=dU.out;omega);intro fT fU ho hb hg hat;rw[←dV.out]at ho;have dY:=mk_ (ho);replace aA:=mk_ (blk_grown (g:=aE) (o:=.cells #[.int .u64 a0_0,.int .i64 a0_1,.int .i64 a0_2,.slice (some dB) l0_3.length c0_3,.int .u64 a0_4,.int .i64 a0_5,.slice A0_6 l0_6.length c0_6] 28 (0,0)) fb_ hg (Kd.R_ne aG.out aA.out (by decide)));replace aH:=mk_ (blk_grown (g:=aY) (o:=.cells #[.slice (some dF) ((rd_T56 l0_3 aC).f0).length c347_0,.int .i64 ((rd_T56 l0_3 aC).f1)] 56 (0,0)) fb_ hg (Kd.R_ne aG.out aH.out (by decide)));replace aI:=mk_ (blk_grown (g:=aJ) (o:=.cells #[.string ((rd_T76 ((rd_T56 l0_3 aC).f0) aD).f0),.int .i64 ((rd_T76 ((rd_T56 l0_3 aC).f0) aD).f1),.bool ((rd_T76 ((rd_T56 l0_3 aC).f0) aD).f2)] 76 (0,0)) (pt_ aI) hg (Kd.R_ne aG.out aI.out (by decide)));replace HB:=mk_ (hb);clear aG;clear ho hb hg hat))
         go_roundg k2
         case measure=>have:=HK1.out;have:=HK2.out;omega
         case rel=>exact⟨(y351),(wrap64 (aD+1)),eq_,H',⟨by have:=HK1.out;have:=HK2.out;omega⟩,⟨rr_ dY⟩,⟨bk_ aA⟩,⟨bk_ aH⟩,⟨bl_ HB⟩⟩
        ·rw[if_neg bA]at H;have dT:decide (a1≤((rd_T76 ((rd_T56 l0_3 aC).f0) aD).f1))=false:=decide_eq_false bA;clear bA;have H':=mk_ H;clear H;obtain⟨aR,aT,dF,e349,aU,aV,aW⟩:=aq_ (at_T76 dD.out aD)
         cases e349;(try replace aU:=bt_ HB aU);(try replace aV:=bt_ HB aV);(try replace aW:=bt_ HB aW)
         go_wp2_with (first|(refine gq_ 9 ?_;refine bx_ 9 #[.string (⟨#[]⟩:ByteArray),.int .i64 0,.bool false] 76 ?_;intro aJ hg bQ hbox hb;have aI:=mk_ (hbox);have dW:=gx_ hg HB;have dX:=gx_ hg HB;have aK:=nx_ hg aA;have:=aK.out;have bO:=ny_ hg aA;have:=bO.out;have aM:=nx_ hg aH;have:=aM.out;have bP:=ny_ hg aH;have:=bP.out;replace aG:=rb_ aG hb;replace aA:=bb_ aA hb;replace aH:=bb_ aH hb;replace HB:=bs_ HB hb;clear hb hbox hg;have:=cz3_ aI;have:=fz3_ aI))
         go_roundg k2
         case measure=>have:=HK1.out;have:=HK2.out;omega
         case rel=>exact⟨(aQ),(wrap64 (aD+1)),eq_,H',⟨by have:=HK1.out;have:=HK2.out;omega⟩,⟨by(with_reducible repeat(first|apply Kd.R_alloc|apply Kd.R_drewN|apply Kd.R_drew));exact Kd.R_mono (rf_ aJ (Kd.R_types aG.out aI.out (by decide)) (fun _ hk=>hk.2)) (fun _ hk=>trivial)⟩,⟨fb_⟩,⟨fb_⟩,⟨bl_ HB⟩⟩
       ·clear H;have H:=h_;clear h_;have H':=mk_ H;clear H
        go_wp2
        go_roundg k2
        case measure=>have:=HK1.out;have:=HK2.out;omega
        case rel=>exact⟨(aQ),(wrap64 (aC+1)),eq_,H',⟨by have:=HK1.out;have:=HK2.out;omega⟩,⟨rr_ aG⟩,⟨bk_ aA⟩,⟨bl_ HB⟩⟩
    ·clear H;have H:=h_;clear h_;replace H:=bi_ H;obtain⟨dG,dZ,H⟩:=H;obtain rfl:=Option.some.inj H;obtain⟨bR,bS,eo30⟩:=Kd.R_slice aG.out;subst eo30
     go_wp2_with (first|(refine gk_ 34 ?_;refine gc_ (some 42) Try.func34 (heavy_Item_34.calls k1 (fun k_=>some k_=(.slice bR aN.length bS:Value).ownBlock) (.slice bR aN.length bS) aN dG w _ ?side1 ?side2 dZ.out) ?_;(case side1=>repeat(first|(with_reducible first|exact HB.out|apply below_alloc|apply pw_below_drewN|apply below_drew1|refine below_set ?_ bX.out)|exact HB.out));(case side2=>exact Kd.R_tight rfl aG.out);rintro e gF ⟨rfl,hy0,hb,hkp⟩;refine⟨_,rfl,?_⟩;replace aA:=mk_ (blk_kept (bk_ aA) hkp (fun fA=>(fun e_=>(Kd.R_ne aG.out aA.out (by decide)) e_) fA));replace aG:=mk_ (Kd.R_reok rfl hy0 (fun k_ e_=>aG.out.1 k_ e_));replace HB:=mk_ (hb);(try clear hb);(try clear hkp);(try clear hy0)))
     go_ret;exact⟨_,er_,by(with_reducible repeat(first|apply Kd.R_alloc|apply Kd.R_drewN|apply Kd.R_drew));exact aG.out,bl_ HB⟩
 ·replace c4:=Bool.eq_false_iff.mpr c4;subst c4
  rw[if_neg (show¬(false=true)by decide)]at H;obtain rfl:=Option.some.inj H
  go_enter Try.func13,Try.ntmps13
  go_wp2_with (first|(refine gq_ 2 ?_;refine bx_ 2 #[.int .u64 a0_0,.int .i64 a0_1,.int .i64 a0_2,.slice A0_3 l0_3.length c0_3,.int .u64 a0_4,.int .i64 a0_5,.slice A0_6 l0_6.length c0_6] 28 ?_;intro aE hg aX hbox hb;have aA:=mk_ (hbox);have dI:=gx_ hg HB;have bX:=gx_ hg HB;replace HB:=bs_ HB hb;clear hb hbox hg;have:=cz7_ aA;have:=fz7_ aA)|(refine gk_ 15 ?_;refine gd_ (some 11) Try.func15 (elastic_Right.calls k a0_0 a0_1 a0_2 _ _ l0_3 a0_4 a0_5 _ _ l0_6 false _ ?side1 ?side2 ?side3 ?side4 A3.out) ?_;(case side1=>exact ck_ (Kd.C_below bL.out HB.out));(case side2=>exact bT.out);(case side3=>exact ck_ (Kd.C_below bU.out HB.out));(case side4=>exact bV.out);intro gU hb;replace aA:=bb_ aA hb;replace HB:=bs_ HB hb;(try clear hb)))
  go_ret;exact⟨_,er_,by first|exact Kd.R_nil _ _ _ _ _|exact Kd.N_nil _ _ _ _ _|exact Kd.V_nil _ _ _ _ _|exact Kd.Q_nil _ _ _ _ _|exact Kd.S_nil _ _ _ _ _,bl_ HB⟩
mutual
def least_New.j0:Nat→Int→Int→Int→Int→Bool→Option (Int × Int × (List (List Int)) × Int)
  |0,_,_,_,_,_=>none
  |k+1,a,b,c,d,e=>if e=true then(some (0,0,([]:List (List Int)),1))else(least_New.l0 k c b 0 a d ([]:List (List Int)))
def least_New.l0:Nat→Int→Int→Int→Int→Int→List (List Int)→Option (Int × Int × (List (List Int)) × Int)
  |0,_,_,_,_,_,_=>none
  |k+1,a,b,c,d,e,f=>if c<b then(if 0≤a then(if(a:Int).toNat≤35184372088832 then(if f.length<5864062014805 then(least_New.l0 k a b (wrap64 (c+1)) d e (f++[(List.replicate (a:Int).toNat 0)]))else(none))else(none))else(none))else(some (d,e,f,0))
end
def least_New.f (k:Nat)(a0 a1 a2 a3:Int):Option (Int × Int × (List (List Int)) × Int):=if a1<1 then(least_New.j0 k a0 a1 a2 a3 true)else(if a1>7 then(least_New.j0 k a0 a1 a2 a3 true)else(if a2<1 then(least_New.j0 k a0 a1 a2 a3 true)else(if a2>256 then(least_New.j0 k a0 a1 a2 a3 true)else(if a3<1 then(least_New.j0 k a0 a1 a2 a3 true)else(least_New.j0 k a0 a1 a2 a3 (decide (a3>1099511627776)))))))
theorem least_New.mono_l:∀k,(∀y0 y1 y2 y3 y4,LeO (least_New.j0 k y0 y1 y2 y3 y4) (least_New.j0 (k+1) y0 y1 y2 y3 y4))∧(∀y0 y1 y2 y3 y4 y5,LeO (least_New.l0 k y0 y1 y2 y3 y4 y5) (least_New.l0 (k+1) y0 y1 y2 y3 y4 y5))
  |0=>⟨fun _ _ _ _ _ r h=>by simp[least_New.j0]at h,fun _ _ _ _ _ _ r h=>by simp[least_New.l0]at h⟩
  |k+1=>by
    obtain⟨ih0,ih1⟩:=least_New.mono_l k
    refine⟨?_,?_⟩<;>intros
    all_goals first|unfold least_New.j0|unfold least_New.l0
    all_goals repeat' with_reducible first|exact ih0 .. |exact ih1 .. |exact LeO.refl _|exact LeO.none _|refine LeO.ite ?_ ?_|refine LeO.bind ?_ (fun _=>?_)
theorem least_New.mono:∀a0 a1 a2 a3 k,LeO (least_New.f k a0 a1 a2 a3) (least_New.f (k+1) a0 a1 a2 a3):=by
  intro a0 a1 a2 a3 k
  obtain⟨ih0,ih1⟩:=least_New.mono_l k
  unfold least_New.f
  repeat' with_reducible first|exact ih0 .. |exact ih1 .. |exact LeO.refl _|exact LeO.none _|refine LeO.ite ?_ ?_|refine LeO.bind ?_ (fun _=>?_)
def least_New.T6:Bool × List (List Nat × List Nat):=(true,[([],[]),([0],[0]),([],[]),([2,2],[2]),([3],[3]),([1,4],[1,4]),([0,1,2,3,4,5],[]),([6,5,5,0,1,2,3,4,5],[5,6])])
def least_New.B6:List Nat:=[0,1,0,4,12,31,63,127]
theorem least_New.tab6:rtab .any (opsOf Try.f52 6)=least_New.T6:=by kernel_rfl
theorem least_New.bits6:waitsOk least_New.T6.2 least_New.B6=true:=by kernel_rfl
theorem least_New.calls (k:Nat)(a0 a1 a2 a3 r1 r2:Int)(r3:List (List Int))(r4:Int)(w:World)(h:least_New.f k a0 a1 a2 a3=some (r1,r2,r3,r4)):
    Calls Try.prog 52 #[.int .u64 a0,.int .i64 a1,.int .i64 a2,.int .i64 a3] w fun e w'=>∃v2_:Value,e=.returned (.tuple #[.agg #[.int .u64 r1,.int .i64 r2,v2_],.int .i64 r4])∧Kd.S (Kd.slice 3 (Kd.int .i64)) 57 w' w.heap.size (fun _=>True) v2_ r3∧Below w.heap.size w w':=by
 have hu26:=Try.underlying26;have HB:=mk_ (Below.refl w.heap.size w);have H:=h;clear h;unfold least_New.f at H;have HC5:=mk_ H;clear H
 go_enter Try.func52,Try.ntmps52
 go_upto_region 1 with(first|(refine gq_ 8 ?_;refine bx_ 8 #[.int .u64 0,.int .i64 0,.slice none 0 0] 26 ?_;intro aD hg w6 hbox hb;have aA:=mk_ (hbox);have cG:=gx_ hg HB;have cH:=gx_ hg HB;replace HB:=bs_ HB hb;clear hb hbox hg))
 (try simp only[Act.put,sa_,sb_,sc_])
 go_cut [32] (fun bN wc=>∃(kq:Nat)(aV:Bool),bN=.bool aV∧Aside0 (least_New.j0 kq a0 a1 a2 a3 aV=some (r1,r2,r3,r4))∧Aside0 (kq≤k)∧Aside0 (wc.heap[aD]? =some (.cells #[.int .u64 0,.int .i64 0,(.slice none 0 0)] 26 (0,0)))∧Aside0 (Below w.heap.size w wc))
 case first=>
  have H:=HC5.out;clear HC5
  rcases ic_ H with⟨aM,h_⟩|⟨aM,h_⟩
  ·clear H;have H:=h_;clear h_
   (first|rw[aM]|(simp only[i64_w,i32_w];rw[aM])|skip)
   have H':=mk_ H;clear H
   go_wp2
   go_meet
   case rel=>exact⟨_,(true),eq_,H',⟨by first|omega|exact Nat.le_refl _⟩,⟨bk_ aA⟩,⟨bl_ HB⟩⟩
  ·clear H;have H:=h_;clear h_
   (first|rw[aM]|(simp only[i64_w,i32_w];rw[aM])|skip)
   by_cases c8:a1>7
   ·rw[if_pos c8]at H;have aY:decide (7<a1)=true:=decide_eq_true c8;clear c8;have H':=mk_ H;clear H
    go_wp2
    go_meet
    case rel=>exact⟨_,(true),eq_,H',⟨by first|omega|exact Nat.le_refl _⟩,⟨bk_ aA⟩,⟨bl_ HB⟩⟩
   ·rw[if_neg c8]at H;have aY:decide (7<a1)=false:=decide_eq_false c8;clear c8
    rcases ic_ H with⟨aZ,h_⟩|⟨aZ,h_⟩
    ·clear H;have H:=h_;clear h_;have H':=mk_ H;clear H
     go_wp2
     go_meet
     case rel=>exact⟨_,(true),eq_,H',⟨by first|omega|exact Nat.le_refl _⟩,⟨bk_ aA⟩,⟨bl_ HB⟩⟩
    ·clear H;have H:=h_;clear h_
     by_cases aJ:a2>256
     ·rw[if_pos aJ]at H;have bA:decide (256<a2)=true:=decide_eq_true aJ;clear aJ;have H':=mk_ H;clear H
      go_wp2
      go_meet
      case rel=>exact⟨_,(true),eq_,H',⟨by first|omega|exact Nat.le_refl _⟩,⟨bk_ aA⟩,⟨bl_ HB⟩⟩
     ·rw[if_neg aJ]at H;have bA:decide (256<a2)=false:=decide_eq_false aJ;clear aJ
      rcases ic_ H with⟨bB,h_⟩|⟨bB,h_⟩
      ·clear H;have H:=h_;clear h_;have H':=mk_ H;clear H
       go_wp2
       go_meet
       case rel=>exact⟨_,(true),eq_,H',⟨by first|omega|exact Nat.le_refl _⟩,⟨bk_ aA⟩,⟨bl_ HB⟩⟩
      ·clear H;have H:=h_;clear h_;have H':=mk_ H;clear H
       go_wp2
       go_meet
       case rel=>exact⟨_,(decide (a3>1099511627776)),eq_,H',⟨by first|omega|exact Nat.le_refl _⟩,⟨bk_ aA⟩,⟨bl_ HB⟩⟩
 case rest=>
  clear HC5;obtain⟨kq,aV,rfl,HA,HJ4,aA,HB⟩:=hcut
  cases kq with
  |zero=>exact absurd HA.out (by simp[least_New.j0])
  |succ bC=>
   have H:=HA.out;clear HA;simp only[least_New.j0]at H
   by_cases aR:aV=true
   ·subst aR
    rw[if_pos rfl]at H;simp only[Option.some.injEq,Prod.mk.injEq]at H;obtain⟨rfl,rfl,rfl,rfl⟩:=H;have:=cz3_ aA;have:=fz3_ aA
    go_wp2
    refine bodyPost_ret (results_ct rfl _ _ aD 26 #[.int .u64 0,.int .i64 0,.slice none 0 0] (0,0) _ rfl (pt_ aA) Try.underlying26 rfl (by kernel_rfl)) rfl ?_;exact⟨_,er_,by first|(with_reducible first|exact Kd.N_nil _ _ _ _ _|exact Kd.V_nil _ _ _ _ _|exact Kd.S_nil _ _ _ _ _)|exact Kd.Q_nil _ _ _ _ _|exact Kd.R_nil _ _ _ _ _,bl_ HB⟩
   ·replace aR:=Bool.eq_false_iff.mpr aR;subst aR
    rw[if_neg (show¬(false=true)by decide)]at H;have H':=mk_ H;clear H
    go_wp2_with (first|(refine gq_ 10 ?_;refine bx_ 10 #[.int .u64 0,.int .i64 0,.slice none 0 0] 26 ?_;intro aG hg bD hbox hb;have aC:=mk_ (hbox);have cI:=gx_ hg HB;have cJ:=gx_ hg HB;have aN:=nx_ hg aA;have:=aN.out;have bE:=ny_ hg aA;have:=bE.out;replace aA:=bb_ aA hb;replace HB:=bs_ HB hb;clear hb hbox hg;have:=cz3_ aC;have:=fz3_ aC))
    go_loopg [38] bC (fun kq cA w'=>∃(aI:Int)(aH:List (List Int))(u356002:Value),cA=.int .i64 aI∧Aside0 (least_New.l0 kq a2 a1 aI a0 a3 aH=some (r1,r2,r3,r4))∧Aside0 (kq≤bC)∧Aside0 (Kd.S (Kd.slice 3 (Kd.int .i64)) 57 w' w.heap.size (fun _=>True) u356002 aH)∧Aside0 (w'.heap[aD]? =some (.cells #[.int .u64 0,.int .i64 0,(.slice none 0 0)] 26 (0,0)))∧Aside0 (w'.heap[aG]? =some (.cells #[.int .u64 a0,.int .i64 a3,u356002] 26 (0,0)))∧Aside0 (Below w.heap.size w w'))
    case atStart=>exact⟨(0),(([]:List (List Int))),(.slice none 0 0),eq_,H',⟨Nat.le_refl _⟩,⟨by first|(with_reducible first|exact Kd.N_nil _ _ _ _ _|exact Kd.V_nil _ _ _ _ _|exact Kd.S_nil _ _ _ _ _)|exact Kd.Q_nil _ _ _ _ _|exact Kd.R_nil _ _ _ _ _⟩,⟨fb_⟩,⟨pt_ aC⟩,⟨bl_ HB⟩⟩
    case round=>
     clear H';(try clear aR);obtain⟨aI,aH,u356002,rfl,HA,HK2,aE,aA,aC,HB⟩:=hrel
     cases gk with
     |zero=>exact absurd HA.out (by simp[least_New.l0])
     |succ k2=>
      have H:=HA.out;clear HA;simp only[least_New.l0]at H
      rcases ic_ H with⟨cB,h_⟩|⟨cB,h_⟩
      ·clear H;have H:=h_;clear h_;replace H:=ip_ H;obtain⟨aT,H⟩:=H;have cN:=eq_true aT;have cO:=decide_eq_true aT;clear aT;replace H:=ip_ H;obtain⟨aU,H⟩:=H;have cP:=eq_true aU;have cQ:=decide_eq_true aU;clear aU;obtain⟨y356,hy356⟩:∃y_:List Int,y_=(List.replicate (a2:Int).toNat 0):=⟨_,rfl⟩
       (try replace H:=(Option.bind_some _ _).symm.trans H);(try rw[←hy356]at H)
       have bF:=mk_ hy356;clear hy356;replace H:=ip_ H;obtain⟨aW,H⟩:=H;have cC:=mk_ aW;clear aW;obtain⟨y359,hy359⟩:∃y_:List (List Int),y_=(aH++[y356]):=⟨_,rfl⟩
       (try replace H:=(Option.bind_some _ _).symm.trans H);(try rw[←hy359]at H)
       have cD:=mk_ hy359;clear hy359;have H':=mk_ H;clear H
       try go_wp2
       replace aE:=mk_ (Kd.S_drew aE.out);replace aA:=bd_ aA;replace aC:=bd_ aC;replace HB:=bw_ HB;generalize hD_:wr.drew=cR at aE aA aC HB;refine sx_ (n:=8) (ds:=[7]) hD_ (cz3_ aC) (fun hHeld=>?_);refine with_tabW least_New.tab6 least_New.bits6 (fun HT_ HW_=>?_);clear hD_;refine p1_ 0 1 ?_;refine p1_ 2 5 ?_;refine t1_ 1 7 ?_;refine oq_ 3 (some 43) 8 15 HT_ (fun K hK=>?_);refine Kd.R_make_step (Kd.int .i64) _ 3 (by rfl) (N:=43) rfl 57 _ _ rfl a2 rfl rfl Try.underlying57 (.int .i64 0) 8 info3 rfl (by decide) (by omega) 0 (ok:=fun _=>True) (okp:=fun _=>True) rfl (fun _ hk=>hk) trivial od_ (Nat.le_trans (Nat.mul_le_mul_right _ (od_:a2.toNat≤35184372088832)) (by omega)) (Below.refl _ _) (Nat.le_refl _) ?_;intro cS cT ho23 hb hg_ hnew_;clear hg_ hnew_
       (first|rw[←bF.out]at ho23|(simp only[Int.reduceToNat]at ho23;rw[←bF.out]at ho23))
       replace aE:=mk_ (Kd.S_elder' (sk_ aE) (Kd.R_base ho23) hb);have aX:=mk_ (Kd.R_lower ho23 (below_size (bl_ HB)));replace aA:=bb_ aA hb;replace aC:=bb_ aC hb;replace HB:=bs_ HB hb;clear hb ho23;obtain⟨bG,bH,eo25⟩:=Kd.R_slice aX.out
       (first|subst eo25|(injection eo25 with f1_ f2_ f3_;have f4_:=f1_.symm;have f5_:=f3_.symm;clear f1_ f2_ f3_;subst f4_;subst f5_))
       refine hK.out _ _ hl_ (fun hHeld=>?_);clear hK K;refine nm_ 43 ?_;refine oq_ 4 (some 44) 8 31 HT_ (fun K hK=>?_);refine value_ (w1:=?_) (v:=?_) (by rfl) rfl ?_ ?_;rotate_left 2
       ·go_simp
        constructor
        ·rfl
        ·rfl
       refine hK.out _ _ ⟨(blk_cell (blk_alloc aC.out _) 0).trans rfl,(blk_cell (blk_alloc aC.out _) 1).trans rfl,(blk_cell (blk_alloc aC.out _) 2).trans rfl⟩ (fun hHeld=>?_);clear hK K;refine nm_ 44 ?_;refine oq_ 5 (some 45) 8 63 HT_ (fun K hK=>?_);refine Kd.S_append_step (Kd.slice 3 (Kd.int .i64)) (w0:=w) w.heap.size (by rfl) (.tmp 41) (.tmp 44) 24 57 (.slice none 0 0) 24 rfl Try.underlying24 info57 rfl (by decide) (by omega) u356002 aH y356 [.slice bG y356.length bH] (fun _=>True) (fun k_=>some k_=(.slice bG y356.length bH:Value).ownBlock) rfl rfl ?aP (fun k_ cE=>((Kd.R_mono (ok':=fun k_=>((fun _=>True)) k_∧some k_≠(u356002:Value).ownBlock) (Kd.R_apart' (aX.out) (Kd.S_typed aE.out) (by decide)) (fun k_ hk=>⟨trivial,hk.2⟩))).1 k_ cE.symm) ?aF ?aO ?aB ?aS ?aL ?_;(case aP=>exact Kd.M_row (Kd.R_mono (Kd.R_tight rfl (Kd.R_mono (ok':=fun k_=>((fun _=>True)) k_∧some k_≠(u356002:Value).ownBlock) (Kd.R_apart' (aX.out) (Kd.S_typed aE.out) (by decide)) (fun k_ hk=>⟨trivial,hk.2⟩))) (fun _ h_=>h_)));(case aB=>exact(bl_ HB));(case aF=>exact(fun _ _=>trivial));(case aO=>exact(sl_ (Kd.S_mono aE.out (fun k_ hk=>⟨trivial,fun e_=>hk.2 e_⟩))));(case aS=>exact(below_size (bl_ HB)));(case aL=>have:=cC.out;omega);intro cU cF ho hb hg hat;rw[←cD.out]at ho
       replace aA:=mk_ (blk_grown (bk_ aA) hg (Kd.S_ne aE.out aA.out (by decide)));replace aC:=mk_ (blk_grown (bk_ aC) hg (Kd.S_ne aE.out aC.out (by decide)));replace HB:=mk_ (hb);have bI:=mk_ (ho);clear aE aX;clear ho hb hg hat;obtain⟨bJ,bK,eo26⟩:=Kd.S_slice bI.out
       (first|subst eo26|(injection eo26 with f1_ f2_ f3_;have f4_:=f1_.symm;have f5_:=f3_.symm;clear f1_ f2_ f3_;subst f4_;subst f5_))
       refine hK.out _ _ hl_ (fun hHeld=>?_);clear hK K;refine nm_ 45 ?_;refine p1_ 6 127 ?_
       refine last_ (i:=7) (N:=none) (mB 8 255) rfl rfl (one_of HT_.out (by kernel_rfl)) (by decide) (fun K hK=>?_);have hs27:cF.cell? ⟨aG,2,none⟩=some (u356002):=bc_ aC 2;have hfs27:=blk_frozen aC.out 2;refine skip_ (w1:=?_) (by rfl) rfl ?_ ?_;rotate_left
       ·go_simp;rfl
       refine hK.out _ _ ?_;clear hK K;refine dq_ HT_ ?_
       try go_wp2
       go_roundg k2
       case measure=>have:=HJ4.out;have:=HK2.out;omega
       case rel=>exact⟨(wrap64 (aI+1)),(y359),(.slice bJ y359.length bK),eq_,H',⟨by have:=HJ4.out;have:=HK2.out;omega⟩,⟨by(with_reducible repeat(first|apply Kd.S_alloc|apply Kd.S_drewN|apply Kd.S_drew));exact Kd.S_mono (sf_ aG (Kd.S_types bI.out aC.out (by decide)) (fun _ hk=>hk.2)) (fun _ hk=>trivial)⟩,⟨fb_⟩,⟨pt_ aC⟩,⟨bl_ HB⟩⟩
      ·clear H;have H:=h_;clear h_;simp only[Option.some.injEq,Prod.mk.injEq]at H;obtain⟨rfl,rfl,rfl,rfl⟩:=H;have:=cz3_ aC;have:=fz3_ aC;have:=cz3_ aA;have:=fz3_ aA;obtain⟨bL,bM,eo31⟩:=Kd.S_slice aE.out;subst eo31
       go_wp2
       refine bodyPost_ret (results_ct rfl _ _ aD 26 #[.int .u64 a0,.int .i64 a3,.slice bL aH.length bM] (0,0) _ rfl (pt_ aA) Try.underlying26 rfl (by kernel_rfl)) rfl ?_;exact⟨_,er_,by(with_reducible repeat(first|apply Kd.S_alloc|apply Kd.S_drewN|apply Kd.S_drew));exact Kd.S_mono (sf_ aD (Kd.S_types aE.out aA.out (by decide)) (fun _ hk=>hk.2)) (fun _ hk=>trivial),bl_ HB⟩
def elastic_New.f (k:Nat)(a0 a1 a2 a3 a4 a5:Int):Option (Int × Int × Int × (List (S56)) × Int × Int × (List (List Int)) × Int):=(hash_Row.f a0 1).bind fun t363=>((least_New.f k t363 a4 a5 255).bind fun bt364=>(if bt364.2.2.2=0 then(if a1<1 then(some (0,0,0,([]:List (S56)),0,0,([]:List (List Int)),1))else(if a1>256 then(some (0,0,0,([]:List (S56)),0,0,([]:List (List Int)),1))else(if a2<1 then(some (0,0,0,([]:List (S56)),0,0,([]:List (List Int)),1))else(if a2>8 then(some (0,0,0,([]:List (S56)),0,0,([]:List (List Int)),1))else(if a3<1 then(some (0,0,0,([]:List (S56)),0,0,([]:List (List Int)),1))else(if a3>64 then(some (0,0,0,([]:List (S56)),0,0,([]:List (List Int)),1))else(if 0≤a1 then(if(a1:Int).toNat≤8796093022208 then(some (a0,a2,a3,(List.replicate (a1:Int).toNat z56),bt364.1,bt364.2.1,bt364.2.2.1,0))else(none))else(none))))))))else(some (0,0,0,([]:List (S56)),0,0,([]:List (List Int)),1))))
theorem elastic_New.mono:∀a0 a1 a2 a3 a4 a5 k,LeO (elastic_New.f k a0 a1 a2 a3 a4 a5) (elastic_New.f (k+1) a0 a1 a2 a3 a4 a5):=by
  intro a0 a1 a2 a3 a4 a5 k
  unfold elastic_New.f
  repeat' with_reducible first|exact least_New.mono .. |exact LeO.refl _|exact LeO.none _|refine LeO.ite ?_ ?_|refine LeO.bind ?_ (fun _=>?_)
def elastic_New.T4:Bool × List (List Nat × List Nat):=(true,[([],[]),([],[]),([],[]),([],[]),([3,3],[3]),([],[]),([0,1,2,4,5],[0,1,2,4,5]),([6,0,1,2,3,4,5,6],[6]),([7,0,1,2,3,4,5,6,7],[])])
def elastic_New.B4:List Nat:=[0,0,0,0,8,0,63,127,255]
theorem elastic_New.tab4:rtab .any (opsOf Try.f21 4)=elastic_New.T4:=by kernel_rfl
theorem elastic_New.bits4:waitsOk elastic_New.T4.2 elastic_New.B4=true:=by kernel_rfl
theorem elastic_New.calls (k:Nat)(a0 a1 a2 a3 a4 a5 r1 r2 r3:Int)(r4:List (S56))(r5 r6:Int)(r7:List (List Int))(r8:Int)(w:World)(h:elastic_New.f k a0 a1 a2 a3 a4 a5=some (r1,r2,r3,r4,r5,r6,r7,r8)):
    Calls Try.prog 21 #[.int .u64 a0,.int .i64 a1,.int .i64 a2,.int .i64 a3,.int .i64 a4,.int .i64 a5] w fun e w'=>∃v3_ v6_:Value,e=.returned (.tuple #[.agg #[.int .u64 r1,.int .i64 r2,.int .i64 r3,v3_,.int .u64 r5,.int .i64 r6,v6_],.int .i64 r8])∧Kd.S k56 56 w' w.heap.size (fun _=>True) v3_ r4∧Kd.S (Kd.slice 3 (Kd.int .i64)) 57 w' w.heap.size (fun _=>True) v6_ r7∧Below w.heap.size w w':=by
 have hu28:=Try.underlying28;have hu26:=Try.underlying26;have HB:=mk_ (Below.refl w.heap.size w);have H:=h;clear h;unfold elastic_New.f at H;replace H:=bi_ H;obtain⟨aJ,A7,H⟩:=H;replace H:=bi_ H;obtain⟨⟨aK,aM,aN,aQ⟩,A8,H⟩:=H;dsimp only at H
 by_cases c9:aQ=0
 ·rw[if_pos c9]at H;have bW:=beq_iff_eq.mpr c9;have bX:=bne_eq_false_iff_eq.mpr c9;clear c9
  rcases ic_ H with⟨bY,h_⟩|⟨bY,h_⟩
  ·clear H;have H:=h_;clear h_;simp only[Option.some.injEq,Prod.mk.injEq]at H;obtain⟨rfl,rfl,rfl,rfl,rfl,rfl,rfl,rfl⟩:=H
   go_enter Try.func21,Try.ntmps21
   go_wp2_with (first|(refine gq_ 12 ?_;refine bx_ 12 #[.int .u64 0,.int .i64 0,.int .i64 0,.slice none 0 0,.int .u64 0,.int .i64 0,.slice none 0 0] 28 ?_;intro aC hg cF hbox hb;have aA:=mk_ (hbox);have bE:=gx_ hg HB;have bB:=gx_ hg HB;replace HB:=bs_ HB hb;clear hb hbox hg)|(refine gk_ 43 ?_;refine gd_ (some 18) Try.func43 (hash_Row.calls a0 1 aJ _ A7.out) ?_;intro cG hb;replace aA:=bb_ aA hb;replace HB:=bs_ HB hb;(try clear hb))|(refine gk_ 52 ?_;refine gc_ (some 21) Try.func52 (least_New.calls k aJ a4 a5 255 aK aM aN aQ _ A8.out) ?_;rintro e cH ⟨bF,rfl,ho0,hb⟩;refine⟨_,rfl,?_⟩;have aG:=mk_ (Kd.S_lower ho0 (below_size (bl_ HB)));replace aA:=bb_ aA hb;replace HB:=bs_ HB hb;(try clear hb);(try clear ho0))|(refine gq_ 14 ?_;refine bx_ 14 #[.int .u64 0,.int .i64 0,.slice none 0 0] 26 ?_;intro aE hg aU hbox hb;have aD:=mk_ (hbox);have bG:=gx_ hg HB;have bC:=gx_ hg HB;have aH:=nx_ hg aA;have:=aH.out;have aI:=ny_ hg aA;have:=aI.out;replace aG:=ss_ aG hb;replace aA:=bb_ aA hb;replace HB:=bs_ HB hb;clear hb hbox hg;have:=cz3_ aD;have:=fz3_ aD;obtain⟨cQ,cR,eo17⟩:=Kd.S_slice aG.out;subst eo17;have:=cz7_ aA;have:=fz7_ aA))
   refine bodyPost_ret (results_ct rfl _ _ aC 28 #[.int .u64 0,.int .i64 0,.int .i64 0,.slice none 0 0,.int .u64 0,.int .i64 0,.slice none 0 0] (0,0) _ rfl (pu_ aA) Try.underlying28 rfl (by kernel_rfl)) rfl ?_
   exact⟨_,_,er_,by first|(with_reducible first|exact Kd.N_nil _ _ _ _ _|exact Kd.V_nil _ _ _ _ _|exact Kd.S_nil _ _ _ _ _)|exact Kd.Q_nil _ _ _ _ _|exact Kd.R_nil _ _ _ _ _,by first|(with_reducible first|exact Kd.N_nil _ _ _ _ _|exact Kd.V_nil _ _ _ _ _|exact Kd.S_nil _ _ _ _ _)|exact Kd.Q_nil _ _ _ _ _|exact Kd.R_nil _ _ _ _ _,bl_ HB⟩
  ·clear H;have H:=h_;clear h_
   by_cases bJ:a1>256
   ·rw[if_pos bJ]at H;have bZ:decide (256<a1)=true:=decide_eq_true bJ;clear bJ;simp only[Option.some.injEq,Prod.mk.injEq]at H;obtain⟨rfl,rfl,rfl,rfl,rfl,rfl,rfl,rfl⟩:=H
    go_enter Try.func21,Try.ntmps21
    go_wp2_with (first|(refine gq_ 12 ?_;refine bx_ 12 #[.int .u64 0,.int .i64 0,.int .i64 0,.slice none 0 0,.int .u64 0,.int .i64 0,.slice none 0 0] 28 ?_;intro aC hg dG hbox hb;have aA:=mk_ (hbox);have bE:=gx_ hg HB;have bB:=gx_ hg HB;replace HB:=bs_ HB hb;clear hb hbox hg)|(refine gk_ 43 ?_;refine gd_ (some 18) Try.func43 (hash_Row.calls a0 1 aJ _ A7.out) ?_;intro dH hb;replace aA:=bb_ aA hb;replace HB:=bs_ HB hb;(try clear hb))|(refine gk_ 52 ?_;refine gc_ (some 21) Try.func52 (least_New.calls k aJ a4 a5 255 aK aM aN aQ _ A8.out) ?_;rintro e dI ⟨bF,rfl,ho0,hb⟩;refine⟨_,rfl,?_⟩;have aG:=mk_ (Kd.S_lower ho0 (below_size (bl_ HB)));replace aA:=bb_ aA hb;replace HB:=bs_ HB hb;(try clear hb);(try clear ho0))|(refine gq_ 14 ?_;refine bx_ 14 #[.int .u64 0,.int .i64 0,.slice none 0 0] 26 ?_;intro aE hg aV hbox hb;have aD:=mk_ (hbox);have bG:=gx_ hg HB;have bC:=gx_ hg HB;have aH:=nx_ hg aA;have:=aH.out;have aI:=ny_ hg aA;have:=aI.out;replace aG:=ss_ aG hb;replace aA:=bb_ aA hb;replace HB:=bs_ HB hb;clear hb hbox hg;have:=cz3_ aD;have:=fz3_ aD;obtain⟨dR,dS,eo26⟩:=Kd.S_slice aG.out;subst eo26;have:=cz7_ aA;have:=fz7_ aA))
    refine bodyPost_ret (results_ct rfl _ _ aC 28 #[.int .u64 0,.int .i64 0,.int .i64 0,.slice none 0 0,.int .u64 0,.int .i64 0,.slice none 0 0] (0,0) _ rfl (pu_ aA) Try.underlying28 rfl (by kernel_rfl)) rfl ?_
    exact⟨_,_,er_,by first|(with_reducible first|exact Kd.N_nil _ _ _ _ _|exact Kd.V_nil _ _ _ _ _|exact Kd.S_nil _ _ _ _ _)|exact Kd.Q_nil _ _ _ _ _|exact Kd.R_nil _ _ _ _ _,by first|(with_reducible first|exact Kd.N_nil _ _ _ _ _|exact Kd.V_nil _ _ _ _ _|exact Kd.S_nil _ _ _ _ _)|exact Kd.Q_nil _ _ _ _ _|exact Kd.R_nil _ _ _ _ _,bl_ HB⟩
   ·rw[if_neg bJ]at H;have bZ:decide (256<a1)=false:=decide_eq_false bJ;clear bJ
    rcases ic_ H with⟨cA,h_⟩|⟨cA,h_⟩
    ·clear H;have H:=h_;clear h_;simp only[Option.some.injEq,Prod.mk.injEq]at H;obtain⟨rfl,rfl,rfl,rfl,rfl,rfl,rfl,rfl⟩:=H
     go_enter Try.func21,Try.ntmps21
     go_wp2_with (first|(refine gq_ 12 ?_;refine bx_ 12 #[.int .u64 0,.int .i64 0,.int .i64 0,.slice none 0 0,.int .u64 0,.int .i64 0,.slice none 0 0] 28 ?_;intro aC hg fH hbox hb;have aA:=mk_ (hbox);have bE:=gx_ hg HB;have bB:=gx_ hg HB;replace HB:=bs_ HB hb;clear hb hbox hg)|(refine gk_ 43 ?_;refine gd_ (some 18) Try.func43 (hash_Row.calls a0 1 aJ _ A7.out) ?_;intro fI hb;replace aA:=bb_ aA hb;replace HB:=bs_ HB hb;(try clear hb))|(refine gk_ 52 ?_;refine gc_ (some 21) Try.func52 (least_New.calls k aJ a4 a5 255 aK aM aN aQ _ A8.out) ?_;rintro e fJ ⟨bF,rfl,ho0,hb⟩;refine⟨_,rfl,?_⟩;have aG:=mk_ (Kd.S_lower ho0 (below_size (bl_ HB)));replace aA:=bb_ aA hb;replace HB:=bs_ HB hb;(try clear hb);(try clear ho0))|(refine gq_ 14 ?_;refine bx_ 14 #[.int .u64 0,.int .i64 0,.slice none 0 0] 26 ?_;intro aE hg aW hbox hb;have aD:=mk_ (hbox);have bG:=gx_ hg HB;have bC:=gx_ hg HB;have aH:=nx_ hg aA;have:=aH.out;have aI:=ny_ hg aA;have:=aI.out;replace aG:=ss_ aG hb;replace aA:=bb_ aA hb;replace HB:=bs_ HB hb;clear hb hbox hg;have:=cz3_ aD;have:=fz3_ aD;obtain⟨fS,fT,eo35⟩:=Kd.S_slice aG.out;subst eo35;have:=cz7_ aA;have:=fz7_ aA))
     refine bodyPost_ret (results_ct rfl _ _ aC 28 #[.int .u64 0,.int .i64 0,.int .i64 0,.slice none 0 0,.int .u64 0,.int .i64 0,.slice none 0 0] (0,0) _ rfl (pu_ aA) Try.underlying28 rfl (by kernel_rfl)) rfl ?_
     exact⟨_,_,er_,by first|(with_reducible first|exact Kd.N_nil _ _ _ _ _|exact Kd.V_nil _ _ _ _ _|exact Kd.S_nil _ _ _ _ _)|exact Kd.Q_nil _ _ _ _ _|exact Kd.R_nil _ _ _ _ _,by first|(with_reducible first|exact Kd.N_nil _ _ _ _ _|exact Kd.V_nil _ _ _ _ _|exact Kd.S_nil _ _ _ _ _)|exact Kd.Q_nil _ _ _ _ _|exact Kd.R_nil _ _ _ _ _,bl_ HB⟩
    ·clear H;have H:=h_;clear h_
     by_cases bL:a2>8
     ·rw[if_pos bL]at H;have cB:decide (8<a2)=true:=decide_eq_true bL;clear bL;simp only[Option.some.injEq,Prod.mk.injEq]at H;obtain⟨rfl,rfl,rfl,rfl,rfl,rfl,rfl,rfl⟩:=H
      go_enter Try.func21,Try.ntmps21
      go_wp2_with (first|(refine gq_ 12 ?_;refine bx_ 12 #[.int .u64 0,.int .i64 0,.int .i64 0,.slice none 0 0,.int .u64 0,.int .i64 0,.slice none 0 0] 28 ?_;intro aC hg gI hbox hb;have aA:=mk_ (hbox);have bE:=gx_ hg HB;have bB:=gx_ hg HB;replace HB:=bs_ HB hb;clear hb hbox hg)|(refine gk_ 43 ?_;refine gd_ (some 18) Try.func43 (hash_Row.calls a0 1 aJ _ A7.out) ?_;intro gJ hb;replace aA:=bb_ aA hb;replace HB:=bs_ HB hb;(try clear hb))|(refine gk_ 52 ?_;refine gc_ (some 21) Try.func52 (least_New.calls k aJ a4 a5 255 aK aM aN aQ _ A8.out) ?_;rintro e gK ⟨bF,rfl,ho0,hb⟩;refine⟨_,rfl,?_⟩;have aG:=mk_ (Kd.S_lower ho0 (below_size (bl_ HB)));replace aA:=bb_ aA hb;replace HB:=bs_ HB hb;(try clear hb);(try clear ho0))|(refine gq_ 14 ?_;refine bx_ 14 #[.int .u64 0,.int .i64 0,.slice none 0 0] 26 ?_;intro aE hg aX hbox hb;have aD:=mk_ (hbox);have bG:=gx_ hg HB;have bC:=gx_ hg HB;have aH:=nx_ hg aA;have:=aH.out;have aI:=ny_ hg aA;have:=aI.out;replace aG:=ss_ aG hb;replace aA:=bb_ aA hb;replace HB:=bs_ HB hb;clear hb hbox hg;have:=cz3_ aD;have:=fz3_ aD;obtain⟨gT,gU,eo44⟩:=Kd.S_slice aG.out;subst eo44;have:=cz7_ aA;have:=fz7_ aA))
      refine bodyPost_ret (results_ct rfl _ _ aC 28 #[.int .u64 0,.int .i64 0,.int .i64 0,.slice none 0 0,.int .u64 0,.int .i64 0,.slice none 0 0] (0,0) _ rfl (pu_ aA) Try.underlying28 rfl (by kernel_rfl)) rfl ?_
      exact⟨_,_,er_,by first|(with_reducible first|exact Kd.N_nil _ _ _ _ _|exact Kd.V_nil _ _ _ _ _|exact Kd.S_nil _ _ _ _ _)|exact Kd.Q_nil _ _ _ _ _|exact Kd.R_nil _ _ _ _ _,by first|(with_reducible first|exact Kd.N_nil _ _ _ _ _|exact Kd.V_nil _ _ _ _ _|exact Kd.S_nil _ _ _ _ _)|exact Kd.Q_nil _ _ _ _ _|exact Kd.R_nil _ _ _ _ _,bl_ HB⟩
     ·rw[if_neg bL]at H;have cB:decide (8<a2)=false:=decide_eq_false bL;clear bL
      rcases ic_ H with⟨cC,h_⟩|⟨cC,h_⟩
      ·clear H;have H:=h_;clear h_;simp only[Option.some.injEq,Prod.mk.injEq]at H;obtain⟨rfl,rfl,rfl,rfl,rfl,rfl,rfl,rfl⟩:=H
       go_enter Try.func21,Try.ntmps21
       go_wp2_with (first|(refine gq_ 12 ?_;refine bx_ 12 #[.int .u64 0,.int .i64 0,.int .i64 0,.slice none 0 0,.int .u64 0,.int .i64 0,.slice none 0 0] 28 ?_;intro aC hg hJ hbox hb;have aA:=mk_ (hbox);have bE:=gx_ hg HB;have bB:=gx_ hg HB;replace HB:=bs_ HB hb;clear hb hbox hg)|(refine gk_ 43 ?_;refine gd_ (some 18) Try.func43 (hash_Row.calls a0 1 aJ _ A7.out) ?_;intro hL hb;replace aA:=bb_ aA hb;replace HB:=bs_ HB hb;(try clear hb))|(refine gk_ 52 ?_;refine gc_ (some 21) Try.func52 (least_New.calls k aJ a4 a5 255 aK aM aN aQ _ A8.out) ?_;rintro e hM ⟨bF,rfl,ho0,hb⟩;refine⟨_,rfl,?_⟩;have aG:=mk_ (Kd.S_lower ho0 (below_size (bl_ HB)));replace aA:=bb_ aA hb;replace HB:=bs_ HB hb;(try clear hb);(try clear ho0))|(refine gq_ 14 ?_;refine bx_ 14 #[.int .u64 0,.int .i64 0,.slice none 0 0] 26 ?_;intro aE hg aY hbox hb;have aD:=mk_ (hbox);have bG:=gx_ hg HB;have bC:=gx_ hg HB;have aH:=nx_ hg aA;have:=aH.out;have aI:=ny_ hg aA;have:=aI.out;replace aG:=ss_ aG hb;replace aA:=bb_ aA hb;replace HB:=bs_ HB hb;clear hb hbox hg;have:=cz3_ aD;have:=fz3_ aD;obtain⟨hV,hW,eo53⟩:=Kd.S_slice aG.out;subst eo53;have:=cz7_ aA;have:=fz7_ aA))
       refine bodyPost_ret (results_ct rfl _ _ aC 28 #[.int .u64 0,.int .i64 0,.int .i64 0,.slice none 0 0,.int .u64 0,.int .i64 0,.slice none 0 0] (0,0) _ rfl (pu_ aA) Try.underlying28 rfl (by kernel_rfl)) rfl ?_
       exact⟨_,_,er_,by first|(with_reducible first|exact Kd.N_nil _ _ _ _ _|exact Kd.V_nil _ _ _ _ _|exact Kd.S_nil _ _ _ _ _)|exact Kd.Q_nil _ _ _ _ _|exact Kd.R_nil _ _ _ _ _,by first|(with_reducible first|exact Kd.N_nil _ _ _ _ _|exact Kd.V_nil _ _ _ _ _|exact Kd.S_nil _ _ _ _ _)|exact Kd.Q_nil _ _ _ _ _|exact Kd.R_nil _ _ _ _ _,bl_ HB⟩
      ·clear H;have H:=h_;clear h_
       by_cases bN:a3>64
       ·rw[if_pos bN]at H;have cD:decide (64<a3)=true:=decide_eq_true bN;clear bN;simp only[Option.some.injEq,Prod.mk.injEq]at H;obtain⟨rfl,rfl,rfl,rfl,rfl,rfl,rfl,rfl⟩:=H
        go_enter Try.func21,Try.ntmps21
        go_wp2_with (first|(refine gq_ 12 ?_;refine bx_ 12 #[.int .u64 0,.int .i64 0,.int .i64 0,.slice none 0 0,.int .u64 0,.int .i64 0,.slice none 0 0] 28 ?_;intro aC hg iL hbox hb;have aA:=mk_ (hbox);have bE:=gx_ hg HB;have bB:=gx_ hg HB;replace HB:=bs_ HB hb;clear hb hbox hg)|(refine gk_ 43 ?_;refine gd_ (some 18) Try.func43 (hash_Row.calls a0 1 aJ _ A7.out) ?_;intro iM hb;replace aA:=bb_ aA hb;replace HB:=bs_ HB hb;(try clear hb))|(refine gk_ 52 ?_;refine gc_ (some 21) Try.func52 (least_New.calls k aJ a4 a5 255 aK aM aN aQ _ A8.out) ?_;rintro e iN ⟨bF,rfl,ho0,hb⟩;refine⟨_,rfl,?_⟩;have aG:=mk_ (Kd.S_lower ho0 (below_size (bl_ HB)));replace aA:=bb_ aA hb;replace HB:=bs_ HB hb;(try clear hb);(try clear ho0))|(refine gq_ 14 ?_;refine bx_ 14 #[.int .u64 0,.int .i64 0,.slice none 0 0] 26 ?_;intro aE hg aZ hbox hb;have aD:=mk_ (hbox);have bG:=gx_ hg HB;have bC:=gx_ hg HB;have aH:=nx_ hg aA;have:=aH.out;have aI:=ny_ hg aA;have:=aI.out;replace aG:=ss_ aG hb;replace aA:=bb_ aA hb;replace HB:=bs_ HB hb;clear hb hbox hg;have:=cz3_ aD;have:=fz3_ aD;obtain⟨iW,iX,eo62⟩:=Kd.S_slice aG.out;subst eo62;have:=cz7_ aA;have:=fz7_ aA))
        refine bodyPost_ret (results_ct rfl _ _ aC 28 #[.int .u64 0,.int .i64 0,.int .i64 0,.slice none 0 0,.int .u64 0,.int .i64 0,.slice none 0 0] (0,0) _ rfl (pu_ aA) Try.underlying28 rfl (by kernel_rfl)) rfl ?_
        exact⟨_,_,er_,by first|(with_reducible first|exact Kd.N_nil _ _ _ _ _|exact Kd.V_nil _ _ _ _ _|exact Kd.S_nil _ _ _ _ _)|exact Kd.Q_nil _ _ _ _ _|exact Kd.R_nil _ _ _ _ _,by first|(with_reducible first|exact Kd.N_nil _ _ _ _ _|exact Kd.V_nil _ _ _ _ _|exact Kd.S_nil _ _ _ _ _)|exact Kd.Q_nil _ _ _ _ _|exact Kd.R_nil _ _ _ _ _,bl_ HB⟩
       ·rw[if_neg bN]at H;have cD:decide (64<a3)=false:=decide_eq_false bN;clear bN;replace H:=ip_ H;obtain⟨bQ,H⟩:=H;have jM:=eq_true bQ;have jN:=decide_eq_true bQ;clear bQ;replace H:=ip_ H;obtain⟨bR,H⟩:=H;have jO:=eq_true bR;have jP:=decide_eq_true bR;clear bR;obtain⟨y371,hy371⟩:∃y_:List (S56),y_=(List.replicate (a1:Int).toNat z56):=⟨_,rfl⟩
        (try replace H:=(Option.bind_some _ _).symm.trans H);(try rw[←hy371]at H)
        have bU:=mk_ hy371;clear hy371;simp only[Option.some.injEq,Prod.mk.injEq]at H;obtain⟨rfl,rfl,rfl,rfl,rfl,rfl,rfl,rfl⟩:=H
        go_enter Try.func21,Try.ntmps21
        try go_wp2_with (first|(refine gq_ 12 ?_;refine bx_ 12 #[.int .u64 0,.int .i64 0,.int .i64 0,.slice none 0 0,.int .u64 0,.int .i64 0,.slice none 0 0] 28 ?_;intro aC hg jQ hbox hb;have aA:=mk_ (hbox);have bE:=gx_ hg HB;have bB:=gx_ hg HB;replace HB:=bs_ HB hb;clear hb hbox hg)|(refine gk_ 43 ?_;refine gd_ (some 18) Try.func43 (hash_Row.calls a0 1 aJ _ A7.out) ?_;intro jR hb;replace aA:=bb_ aA hb;replace HB:=bs_ HB hb;(try clear hb))|(refine gk_ 52 ?_;refine gc_ (some 21) Try.func52 (least_New.calls k aJ a4 a5 255 aK aM aN aQ _ A8.out) ?_;rintro e jS ⟨bF,rfl,ho0,hb⟩;refine⟨_,rfl,?_⟩;have aG:=mk_ (Kd.S_lower ho0 (below_size (bl_ HB)));replace aA:=bb_ aA hb;replace HB:=bs_ HB hb;(try clear hb);(try clear ho0))|(refine gq_ 14 ?_;refine bx_ 14 #[.int .u64 0,.int .i64 0,.slice none 0 0] 26 ?_;intro aE hg bD hbox hb;have aD:=mk_ (hbox);have bG:=gx_ hg HB;have bC:=gx_ hg HB;have aH:=nx_ hg aA;have:=aH.out;have aI:=ny_ hg aA;have:=aI.out;replace aG:=ss_ aG hb;replace aA:=bb_ aA hb;replace HB:=bs_ HB hb;clear hb hbox hg;have:=cz3_ aD;have:=fz3_ aD;obtain⟨aR,aT,eo72⟩:=Kd.S_slice aG.out;subst eo72))
        generalize hw:((bD.setCell ⟨aE,0,none⟩ (.int .u64 aK)).setCell ⟨aE,1,none⟩ (.int .i64 aM)).setCell ⟨aE,2,none⟩ (.slice aR aN.length aT)=cE;replace hw:=hw.symm;replace aG:Aside0 (Kd.S (Kd.slice 3 (Kd.int .i64)) 57 cE w.heap.size (fun _=>True) (.slice aR aN.length aT) aN):=⟨by rw[hw];(with_reducible repeat(first|apply Kd.S_alloc|apply Kd.S_drewN|apply Kd.S_drew));exact Kd.S_mono (sf_ aE (Kd.S_types aG.out aD.out (by decide)) (fun _ hk=>hk.2)) (fun _ hk=>trivial)⟩;replace HB:=lo_ hw HB;replace aA:=fo_ hw aA;replace aD:Aside0 (cE.heap[aE]? =some (.cells #[.int .u64 aK,.int .i64 aM,.slice aR aN.length aT] 26 (0,0))):=⟨by rw[hw];exact pt_ aD⟩;clear hw;replace aG:=mk_ (Kd.S_drew aG.out);replace aA:=bd_ aA;replace aD:=bd_ aD;replace HB:=bw_ HB;generalize hD_:cE.drew=lB at aG aA aD HB;refine sx_ (n:=9) (ds:=[]) hD_ (cz3_ aD) (fun hHeld=>?_);refine with_tabW elastic_New.tab4 elastic_New.bits4 (fun HT_ HW_=>?_);clear hD_;refine p1_ 0 1 ?_;refine p1_ 1 3 ?_;refine p1_ 2 7 ?_;refine p1_ 3 15 ?_;refine t1_ 5 47 ?_;refine oq_ 4 (some 55) 9 63 HT_ (fun K hK=>?_);refine Kd.S_make_step k56 _ 56 (by rfl) (N:=55) rfl 23 _ _ rfl a1 rfl rfl Try.underlying23 (.agg #[(.slice none 0 0),(.int .i64 0)]) 32 info56 rfl (by decide) (by omega) z56 (ok:=fun _=>True) (okp:=fun _=>True) (k56_mkM _ _ _ z56 (Kd.R_nil _ _ _ _ _)) (fun _ hk=>hk) trivial od_ (Nat.le_trans (Nat.mul_le_mul_right _ (od_:a1.toNat≤8796093022208)) (by omega)) (Below.refl _ _) (Nat.le_refl _) ?_;intro lC bH ho76 hb hg_ hnew_;clear hg_ hnew_
        (first|rw[←bU.out]at ho76|(simp only[Int.reduceToNat]at ho76;rw[←bU.out]at ho76))
        replace aG:=ss_ aG hb;have bV:=mk_ (Kd.S_lower ho76 (below_size (bl_ HB)));replace aA:=bb_ aA hb;replace aD:=bb_ aD hb;replace HB:=bs_ HB hb;clear hb ho76;obtain⟨bO,bP,eo77⟩:=Kd.S_slice bV.out
        (first|subst eo77|(injection eo77 with f1_ f2_ f3_;have f4_:=f1_.symm;have f5_:=f3_.symm;clear f1_ f2_ f3_;subst f4_;subst f5_))
        refine hK.out _ _ hl_ (fun hHeld=>?_);clear hK K;refine nm_ 55 ?_;refine p1_ 6 127 ?_;refine oq_ 7 (none) 9 255 HT_ (fun K hK=>?_);have hs78:bH.cell? ⟨aC,0,none⟩=some (.int .u64 0):=bc_ aA 0;have hfs78:=blk_frozen aA.out 0;have hs79:bH.cell? ⟨aC,1,none⟩=some (.int .i64 0):=bc_ aA 1;have hfs79:=blk_frozen aA.out 1;have hs80:bH.cell? ⟨aC,2,none⟩=some (.int .i64 0):=bc_ aA 2;have hfs80:=blk_frozen aA.out 2;have hs81:bH.cell? ⟨aC,3,none⟩=some (.slice none 0 0):=bc_ aA 3;have hfs81:=blk_frozen aA.out 3;have hs82:bH.cell? ⟨aC,4,none⟩=some (.int .u64 0):=bc_ aA 4;have hfs82:=blk_frozen aA.out 4;have hs83:bH.cell? ⟨aC,5,none⟩=some (.int .i64 0):=bc_ aA 5;have hfs83:=blk_frozen aA.out 5;have hs84:bH.cell? ⟨aC,6,none⟩=some (.slice none 0 0):=bc_ aA 6;have hfs84:=blk_frozen aA.out 6
        refine skip_ (w1:=?_) (by rfl) rfl ?_ ?_;rotate_left
        ·go_simp;rfl
        refine hK.out _ _ hm_ (fun hHeld=>?_);clear hK K;refine p1_ 8 511 ?_;refine dq_ HT_ ?_
        try go_wp2
        refine bodyPost_ret (results_ct rfl _ _ aC 28 #[.int .u64 a0,.int .i64 a2,.int .i64 a3,.slice bO y371.length bP,.int .u64 aK,.int .i64 aM,.slice aR aN.length aT] (0,0) _ rfl (pt_ aA) Try.underlying28 rfl (by kernel_rfl)) rfl ?_
        exact⟨_,_,er_,by(with_reducible repeat(first|apply Kd.S_alloc|apply Kd.S_drewN|apply Kd.S_drew));exact Kd.S_mono (sf_ aC (Kd.S_types bV.out aA.out (by decide)) (fun _ hk=>hk.2)) (fun _ hk=>trivial),by(with_reducible repeat(first|apply Kd.S_alloc|apply Kd.S_drewN|apply Kd.S_drew));exact Kd.S_mono (sf_ aC (Kd.S_types aG.out aA.out (by decide)) (fun _ hk=>hk.2)) (fun _ hk=>trivial),bl_ HB⟩
 ·rw[if_neg c9]at H;have bW:=beq_eq_false_iff_ne.mpr c9;have bX:=bne_iff_ne.mpr c9;simp only[Option.some.injEq,Prod.mk.injEq]at H;obtain⟨rfl,rfl,rfl,rfl,rfl,rfl,rfl,rfl⟩:=H
  go_enter Try.func21,Try.ntmps21
  go_wp2_with (first|(refine gq_ 12 ?_;refine bx_ 12 #[.int .u64 0,.int .i64 0,.int .i64 0,.slice none 0 0,.int .u64 0,.int .i64 0,.slice none 0 0] 28 ?_;intro aC hg lD hbox hb;have aA:=mk_ (hbox);have bE:=gx_ hg HB;have bB:=gx_ hg HB;replace HB:=bs_ HB hb;clear hb hbox hg)|(refine gk_ 43 ?_;refine gd_ (some 18) Try.func43 (hash_Row.calls a0 1 aJ _ A7.out) ?_;intro lE hb;replace aA:=bb_ aA hb;replace HB:=bs_ HB hb;(try clear hb))|(refine gk_ 52 ?_;refine gc_ (some 21) Try.func52 (least_New.calls k aJ a4 a5 255 aK aM aN aQ _ A8.out) ?_;rintro e lF ⟨bF,rfl,ho0,hb⟩;refine⟨_,rfl,?_⟩;have aG:=mk_ (Kd.S_lower ho0 (below_size (bl_ HB)));replace aA:=bb_ aA hb;replace HB:=bs_ HB hb;(try clear hb);(try clear ho0))|(refine gq_ 14 ?_;refine bx_ 14 #[.int .u64 0,.int .i64 0,.slice none 0 0] 26 ?_;intro aE hg bA hbox hb;have aD:=mk_ (hbox);have bG:=gx_ hg HB;have bC:=gx_ hg HB;have aH:=nx_ hg aA;have:=aH.out;have aI:=ny_ hg aA;have:=aI.out;replace aG:=ss_ aG hb;replace aA:=bb_ aA hb;replace HB:=bs_ HB hb;clear hb hbox hg;have:=cz3_ aD;have:=fz3_ aD;obtain⟨lO,lP,eo91⟩:=Kd.S_slice aG.out;subst eo91;have:=cz7_ aA;have:=fz7_ aA))
  refine bodyPost_ret (results_ct rfl _ _ aC 28 #[.int .u64 0,.int .i64 0,.int .i64 0,.slice none 0 0,.int .u64 0,.int .i64 0,.slice none 0 0] (0,0) _ rfl (pu_ aA) Try.underlying28 rfl (by kernel_rfl)) rfl ?_
  exact⟨_,_,er_,by first|(with_reducible first|exact Kd.N_nil _ _ _ _ _|exact Kd.V_nil _ _ _ _ _|exact Kd.S_nil _ _ _ _ _)|exact Kd.Q_nil _ _ _ _ _|exact Kd.R_nil _ _ _ _ _,by first|(with_reducible first|exact Kd.N_nil _ _ _ _ _|exact Kd.V_nil _ _ _ _ _|exact Kd.S_nil _ _ _ _ _)|exact Kd.Q_nil _ _ _ _ _|exact Kd.R_nil _ _ _ _ _,bl_ HB⟩
def rillmeterlaw15_awake.l0:Nat→Int→List ByteArray→Int→Int→Int→Int→Int→List (S56)→Int→Int→List (List Int)→Option (Bool)
  |0,_,_,_,_,_,_,_,_,_,_,_=>none
  |k+1,a,b,c,d,e,g,h,i,j,l,m=>if d<c then(if 0≤d then(if d<(b.length:Int)then((elastic_Add.f k e g h i j l m (rdOf ByteArray.empty b d)).bind fun bt391=>(rillmeterlaw15_awake.l0 k a b c (wrap64 (d+1)) bt391.1 bt391.2.1 bt391.2.2.1 bt391.2.2.2.1 bt391.2.2.2.2.1 bt391.2.2.2.2.2.1 bt391.2.2.2.2.2.2.1))else(none))else(none))else((elastic_Get.f k e g h i j l m (⟨#[97]⟩:ByteArray)).bind fun bt403=>((elastic_List.f k e g h i j l m 1).bind fun t407=>(if a=0 then(if bt403.1=0 then(if bt403.2.1≥1 then(if bt403.2.2.1=true then(some false)else(if bt403.2.2.2=true then(some false)else(if(t407.length:Int)=1 then(if 0<(t407.length:Int)then(if((rd_T68 t407 0).f0).toList=([98]:List UInt8)then(some (((rd_T68 t407 0).f1)==1))else(some false))else(none))else(some false))))else(some false))else(some false))else(some false))))
def rillmeterlaw15_awake.f (k:Nat):Option (Bool):=(elastic_New.f k 1 1 1 2 1 8).bind fun bt374=>((some (([(⟨#[97]⟩:ByteArray),(⟨#[98]⟩:ByteArray),(⟨#[98]⟩:ByteArray)]:List ByteArray):List ByteArray)).bind fun y387=>(rillmeterlaw15_awake.l0 k bt374.2.2.2.2.2.2.2 y387 (y387.length:Int) 0 bt374.1 bt374.2.1 bt374.2.2.1 bt374.2.2.2.1 bt374.2.2.2.2.1 bt374.2.2.2.2.2.1 bt374.2.2.2.2.2.2.1))
theorem rillmeterlaw15_awake.mono_l:∀k,(∀y0 y1 y2 y3 y4 y5 y6 y7 y8 y9 y10,LeO (rillmeterlaw15_awake.l0 k y0 y1 y2 y3 y4 y5 y6 y7 y8 y9 y10) (rillmeterlaw15_awake.l0 (k+1) y0 y1 y2 y3 y4 y5 y6 y7 y8 y9 y10))
  |0=>fun _ _ _ _ _ _ _ _ _ _ _ r h=>by simp[rillmeterlaw15_awake.l0]at h
  |k+1=>by
    have ih0:=rillmeterlaw15_awake.mono_l k
    · intro y0 y1 y2 y3 y4 y5 y6 y7 y8 y9 y10
      unfold rillmeterlaw15_awake.l0
      repeat' with_reducible first|exact ih0 .. |exact elastic_Add.mono .. |exact elastic_Get.mono .. |exact elastic_List.mono .. |exact elastic_New.mono .. |exact LeO.refl _|exact LeO.none _|refine LeO.ite ?_ ?_|refine LeO.bind ?_ (fun _=>?_)
theorem rillmeterlaw15_awake.mono:∀k,LeO (rillmeterlaw15_awake.f k) (rillmeterlaw15_awake.f (k+1)):=by
  intro k
  have ih0:=rillmeterlaw15_awake.mono_l k
  unfold rillmeterlaw15_awake.f
  repeat' with_reducible first|exact ih0 .. |exact elastic_Add.mono .. |exact elastic_Get.mono .. |exact elastic_List.mono .. |exact elastic_New.mono .. |exact LeO.refl _|exact LeO.none _|refine LeO.ite ?_ ?_|refine LeO.bind ?_ (fun _=>?_)
theorem rillmeterlaw15_awake.calls (k:Nat)(r:Bool)(w:World)(h:rillmeterlaw15_awake.f k=some r):
    Calls Try.prog 10 #[] w fun e w'=>e=.returned (.bool r)∧Below w.heap.size w w':=by
 have hu28:=Try.underlying28;have HB:=mk_ (Below.refl w.heap.size w);have H:=h;clear h;unfold rillmeterlaw15_awake.f at H;replace H:=bi_ H;obtain⟨⟨aQ,aT,aW,aX,bC,bF,bG,aU⟩,A1,H⟩:=H;dsimp only at H;obtain⟨y387,hy387⟩:∃y_:List ByteArray,y_=(([(⟨#[97]⟩:ByteArray),(⟨#[98]⟩:ByteArray),(⟨#[98]⟩:ByteArray)]:List ByteArray)):=⟨_,rfl⟩
 (try replace H:=(Option.bind_some _ _).symm.trans H);(try rw[←hy387]at H)
 have fQ:=mk_ hy387;clear hy387;have H':=mk_ H;clear H
 go_enter Try.func10,Try.ntmps10
 go_wp2_with (first|(refine gk_ 21 ?_;refine gc_ (some 11) Try.func21 (elastic_New.calls k 1 1 1 2 1 8 aQ aT aW aX bC bF bG aU _ A1.out) ?_;rintro e w2 ⟨fY,fZ,rfl,ho0,ho1,hb⟩;refine⟨_,rfl,?_⟩;have bH:=mk_ (Kd.N_lower (Kd.N_mono (ok':=fun k_=>some k_≠(fZ:Value).ownBlock) (Kd.S_N (Kd.S_bound (Kd.S_apart' ho0 (Kd.S_typed ho1) (by decide)))) (fun k_ aZ=>aZ.1.2)) (below_size (bl_ HB)));have bI:=mk_ (Kd.N_lower (Kd.N_mono (ok':=fun k_=>some k_≠(fY:Value).ownBlock) (Kd.S_N (Kd.S_bound (Kd.S_apart' ho1 (Kd.S_typed ho0) (by decide)))) (fun k_ aZ=>aZ.1.2)) (below_size (bl_ HB)));replace HB:=bs_ HB hb;(try clear hb);(try clear ho0);(try clear ho1))|(refine gq_ 1 ?_;(try(refine gate_guard (by rfl) ?_;dsimp only));refine bx_ 1 #[.int .u64 0,.int .i64 0,.int .i64 0,.slice none 0 0,.int .u64 0,.int .i64 0,.slice none 0 0] 28 ?_;intro aB hg w3 hbox hb;have aA:=mk_ (hbox);have hD:=gx_ hg HB;have hE:=gx_ hg HB;replace bH:=ne_ bH hg hb;replace bI:=ne_ bI hg hb;replace HB:=bs_ HB hb;clear hb hbox hg;have:=cz7_ aA;have:=fz7_ aA;obtain⟨bN,bO,eo5⟩:=Kd.N_slice bH.out;subst eo5;obtain⟨cS,cT,eo6⟩:=Kd.N_slice bI.out;subst eo6)|(refine gq_ 14 ?_;(try(refine gate_guard (by rfl) ?_;dsimp only));refine Kd.R_lit Kd.string _ 9 ?hg (N:=14) ?hd (xs:=([(⟨#[97]⟩:ByteArray),(⟨#[98]⟩:ByteArray),(⟨#[98]⟩:ByteArray)]:List ByteArray)) (inner:=[.string (⟨#[97]⟩:ByteArray),.string (⟨#[98]⟩:ByteArray),.string (⟨#[98]⟩:ByteArray)]) (ok:=fun _=>True) (okp:=fun _=>True) ?hr ?hp (fun _ hk=>hk) trivial (Below.refl _ _) (Nat.le_refl _) (by simp) ?_;(case hd=>rfl);(case hg=>rfl);(case hr=>first|(go_simp;done)|(go_simp;rfl));(case hp=>exact(Reps.one (show Kd.M Kd.string _ _ _ (⟨#[97]⟩:ByteArray) [.string (⟨#[97]⟩:ByteArray)]from rfl) (Reps.one (show Kd.M Kd.string _ _ _ (⟨#[98]⟩:ByteArray) [.string (⟨#[98]⟩:ByteArray)]from rfl) (Reps.one (show Kd.M Kd.string _ _ _ (⟨#[98]⟩:ByteArray) [.string (⟨#[98]⟩:ByteArray)]from rfl) (Reps.none _ _)))));intro hF w7 ho8 hb hg_ hnew_;clear hg_ hnew_;(first|rw[←fQ.out]at ho8|(simp only[Int.reduceToNat]at ho8;rw[←fQ.out]at ho8));have fR:=mk_ (Kd.R_lower ho8 (below_size (bl_ HB)));replace bH:=mk_ (Kd.N_elder' (by(with_reducible repeat(first|apply Kd.N_alloc|apply Kd.N_drewN|apply Kd.N_drew));exact(Kd.N_mono (nf_ aB (Kd.N_mono bH.out (fun k_ hk=>(⟨hk,hk.2⟩:_∧k_≠aB))) (fun _ hk=>hk.2)) (fun _ h_=>h_.1))) (Kd.R_base ho8) hb);replace bI:=mk_ (Kd.N_elder' (by(with_reducible repeat(first|apply Kd.N_alloc|apply Kd.N_drewN|apply Kd.N_drew));exact(Kd.N_mono (nf_ aB (Kd.N_mono bI.out (fun k_ hk=>(⟨hk,hk.2⟩:_∧k_≠aB))) (fun _ hk=>hk.2)) (fun _ h_=>h_.1))) (Kd.R_base ho8) hb);replace aA:=mk_ (blk_below (g:=aB) (o:=.cells #[.int .u64 aQ,.int .i64 aT,.int .i64 aW,.slice bN aX.length bO,.int .u64 bC,.int .i64 bF,.slice cS bG.length cT] 28 (0,0)) (pt_ aA) hb);replace HB:=bs_ HB hb;clear hb ho8;obtain⟨dC,bP,eo9⟩:=Kd.R_slice fR.out;subst eo9))
 go_loopg [16] k (fun kq gO w'=>∃(aO aI aH aG:Int)(aL:List (S56))(aF aE:Int)(aK:List (List Int))(u387003 u387006:Value),gO=.int .i64 aO∧Aside0 (rillmeterlaw15_awake.l0 kq aU y387 (y387.length:Int) aO aI aH aG aL aF aE aK=some r)∧Aside0 (kq≤k)∧Aside0 (Kd.R Kd.string 9 w' w.heap.size (fun _=>True) (.slice dC y387.length bP) y387)∧Aside0 (Kd.N k56 56 w' w.heap.size (fun k_=>some k_≠((.slice dC y387.length bP):Value).ownBlock∧k_≠aB) u387003 aL)∧Aside0 (Kd.V (Kd.slice 3 (Kd.int .i64)) 57 w' w.heap.size (fun k_=>some k_≠((.slice dC y387.length bP):Value).ownBlock∧some k_≠(u387003:Value).ownBlock∧k_≠aB) u387006 aK)∧Aside0 (w'.heap[aB]? =some (.cells #[.int .u64 aI,.int .i64 aH,.int .i64 aG,u387003,.int .u64 aF,.int .i64 aE,u387006] 28 (0,0)))∧Aside0 (Below w.heap.size w w'))
 case atStart=>exact⟨(0),(aQ),(aT),(aW),(aX),(bC),(bF),(bG),(.slice bN aX.length bO),(.slice cS bG.length cT),eq_,H',⟨Nat.le_refl _⟩,⟨rr_ fR⟩,⟨by(with_reducible repeat(first|apply Kd.N_alloc|apply Kd.N_drewN|apply Kd.N_drew));exact Kd.N_mono bH.out (fun _ hk=>⟨hk.2,hk.1.2⟩)⟩,⟨Kd.N_V (by(with_reducible repeat(first|apply Kd.N_alloc|apply Kd.N_drewN|apply Kd.N_drew));exact Kd.N_mono bI.out (fun _ hk=>⟨hk.2,⟨hk.1.1,hk.1.2⟩⟩))⟩,⟨bk_ aA⟩,⟨bl_ HB⟩⟩
 case round=>
  clear H';obtain⟨aO,aI,aH,aG,aL,aF,aE,aK,u387003,u387006,rfl,HA,HK1,aJ,aC,aD,aA,HB⟩:=hrel
  cases gk with
  |zero=>exact absurd HA.out (by simp[rillmeterlaw15_awake.l0])
  |succ k1=>
   have H:=HA.out;clear HA;simp only[rillmeterlaw15_awake.l0]at H
   rcases ic_ H with⟨gP,h_⟩|⟨gP,h_⟩
   ·clear H;have H:=h_;clear h_;replace H:=it_ H;obtain⟨hG,H⟩:=H;replace H:=it_ H;obtain⟨hH,H⟩:=H;replace H:=bi_ H;obtain⟨⟨aV,aY,bA,bB,bJ,bQ,bR,gQ⟩,gR,H⟩:=H;dsimp only at H;have H':=mk_ H;clear H;obtain⟨dD,dE,cW,e390,hI⟩:=aq_ (Kd.at_string (Kd.R_reads' aJ.out).2.2 aO)
    cases e390;have:=cz7_ aA;have:=fz7_ aA;obtain⟨bS,bT,eo15⟩:=Kd.N_slice aC.out;subst eo15;obtain⟨bD,bE,eo16⟩:=Kd.V_slice aD.out;subst eo16
    go_wp2_with (first|(refine gk_ 11 ?_;refine gc_ (some 23) Try.func11 (elastic_Add.calls k1 aI aH aG (fun k_=>(some k_≠(.slice (some cW) y387.length bP:Value).ownBlock∧k_≠aB)) _ _ aL aF aE (fun k_=>(some k_≠(.slice (some cW) y387.length bP:Value).ownBlock∧(some k_≠(.slice bS aL.length bT:Value).ownBlock∧k_≠aB))) _ _ aK (rdOf ByteArray.empty y387 aO) aV aY bA bB bJ bQ bR gQ _ ?side1 ?side2 gR.out) ?_;(case side1=>exact Kd.N_V (aC.out));(case side2=>exact aD.out);rintro e bU ⟨gS,hX,rfl,ho0,ho1,hb⟩;refine⟨_,rfl,?_⟩;have fT:=mk_ (Kd.N_lower (Kd.N_mono (ok':=fun k_=>some k_≠(.slice (some cW) y387.length bP:Value).ownBlock∧k_≠aB) ho0 (fun k_ aZ=>⟨Or.elim aZ (fun aN=>Or.elim aN (fun aN=>aN.1) (fun aN=>aN.1)) (fun bV=>(Kd.fresh' (Kd.R_lt (rk_ aJ)) k_ bV)),Or.elim aZ (fun aN=>Or.elim aN (fun aN=>aN.2) (fun aN=>aN.2.2)) (fun bV=>(Kd.freshB (bk_ aA) k_ bV))⟩)) (below_size (bl_ HB)));have fU:=mk_ (Kd.V_lower (Kd.V_mono (ok':=fun k_=>some k_≠(gS:Value).ownBlock∧some k_≠(.slice (some cW) y387.length bP:Value).ownBlock∧k_≠aB) ho1 (fun k_ aZ=>⟨aZ.2,Or.elim aZ.1 (fun aN=>Or.elim aN (fun aN=>aN.1) (fun aN=>aN.1)) (fun bV=>(Kd.fresh' (Kd.R_lt (rk_ aJ)) k_ bV)),Or.elim aZ.1 (fun aN=>Or.elim aN (fun aN=>aN.2) (fun aN=>aN.2.2)) (fun bV=>(Kd.freshB (bk_ aA) k_ bV))⟩)) (below_size (bl_ HB)));replace aJ:=rb_ aJ hb;replace aC:=mk_ (Kd.N_elder' (nk_ aC) (by first|exact Kd.N_base ho0|exact Kd.S_base ho0) hb);replace aD:=mk_ (Kd.V_elder' (vk_ aD) (by first|exact Kd.N_base ho0|exact Kd.S_base ho0) hb);replace aA:=bb_ aA hb;replace HB:=bs_ HB hb;(try clear hb);(try clear hk);(try clear ho0);(try clear ho1);have:=cz7_ aA;have:=fz7_ aA;obtain⟨bW,bX,eo19⟩:=Kd.N_slice fT.out;subst eo19;obtain⟨cX,cY,eo20⟩:=Kd.V_slice fU.out;subst eo20))
    go_roundg k1
    case measure=>have:=HK1.out;omega
    case rel=>exact⟨(wrap64 (aO+1)),(aV),(aY),(bA),(bB),(bJ),(bQ),(bR),(.slice bW bB.length bX),(.slice cX bR.length cY),eq_,H',⟨by have:=HK1.out;omega⟩,⟨by(with_reducible repeat(first|apply Kd.R_alloc|apply Kd.R_drewN|apply Kd.R_drew));exact Kd.R_mono (rf_ aB (Kd.R_types aJ.out aA.out (by decide)) (fun _ hk=>hk.2)) (fun _ hk=>trivial)⟩,⟨by(with_reducible repeat(first|apply Kd.N_alloc|apply Kd.N_drewN|apply Kd.N_drew));exact Kd.N_mono (nf_ aB (Kd.N_mono fT.out (fun k_ hk=>(⟨hk,hk.2⟩:_∧k_≠aB))) (fun _ hk=>hk.2)) (fun _ hk=>⟨hk.1.1,hk.1.2⟩)⟩,⟨by(with_reducible repeat(first|apply Kd.V_alloc|apply Kd.V_drewN|apply Kd.V_drew));exact Kd.V_mono (vf_ aB (Kd.V_mono fU.out (fun k_ hk=>(⟨hk,hk.2.2⟩:_∧k_≠aB))) (fun _ hk=>hk.2)) (fun _ hk=>⟨hk.1.2.1,⟨hk.1.1,hk.1.2.2⟩⟩)⟩,⟨pt_ aA⟩,⟨bl_ HB⟩⟩
   ·clear H;have H:=h_;clear h_;replace H:=bi_ H;obtain⟨⟨aP,aR,cQ,bK⟩,bL,H⟩:=H;dsimp only at H;replace H:=bi_ H;obtain⟨aM,bM,H⟩:=H
    by_cases bY:aU=0
    ·rw[if_pos bY]at H;have gT:=beq_iff_eq.mpr bY;have gU:=bne_eq_false_iff_eq.mpr bY;clear bY
     by_cases bZ:aP=0
     ·rw[if_pos bZ]at H;have gV:=beq_iff_eq.mpr bZ;have gW:=bne_eq_false_iff_eq.mpr bZ;clear bZ
      by_cases cR:aR≥1
      ·rw[if_pos cR]at H;have gX:decide (1≤aR)=true:=decide_eq_true cR;clear cR
       by_cases cZ:cQ=true
       ·subst cZ
        rw[if_pos rfl]at H;obtain rfl:=Option.some.inj H;have:=cz7_ aA;have:=fz7_ aA;obtain⟨dF,dG,eo28⟩:=Kd.N_slice aC.out;subst eo28;obtain⟨dH,dI,eo29⟩:=Kd.V_slice aD.out;subst eo29
        go_wp2_with (first|(refine gk_ 12 ?_;refine gd_ (some 29) Try.func12 (elastic_Get.calls k1 aI aH aG _ _ aL aF aE _ _ aK (⟨#[97]⟩:ByteArray) aP aR true bK _ ?side1 ?side2 ?side3 ?side4 bL.out) ?_;(case side1=>exact ck_ (Kd.N_reads' aC.out).2.2);(case side2=>exact(Kd.N_reads' aC.out).2.1);(case side3=>exact ck_ (Kd.V_reads' aD.out).2.2);(case side4=>exact(Kd.V_reads' aD.out).2.1);intro cA hb;replace aJ:=rb_ aJ hb;replace aC:=nbl_ aC hb;replace aD:=vs_ aD hb;replace aA:=bb_ aA hb;replace HB:=bs_ HB hb;(try clear hb);(try clear hk);have:=cz7_ aA;have:=fz7_ aA)|(refine gk_ 13 ?_;refine gc_ (some 35) Try.func13 (elastic_List.calls k1 aI aH aG _ _ aL aF aE _ _ aK 1 aM _ ?side1 ?side2 ?side3 ?side4 bM.out) ?_;(case side1=>exact ck_ (Kd.N_reads' aC.out).2.2);(case side2=>exact(Kd.N_reads' aC.out).2.1);(case side3=>exact ck_ (Kd.V_reads' aD.out).2.2);(case side4=>exact(Kd.V_reads' aD.out).2.1);rintro e jO ⟨cB,rfl,ho0,hb⟩;refine⟨_,rfl,?_⟩;have aS:=mk_ (Kd.R_lower ho0 (below_size (bl_ HB)));replace aJ:=rb_ aJ hb;replace aC:=mk_ (Kd.N_elder' (nk_ aC) (Kd.R_base ho0) hb);replace aD:=mk_ (Kd.V_elder' (vk_ aD) (Kd.R_base ho0) hb);replace aA:=bb_ aA hb;replace HB:=bs_ HB hb;(try clear hb);(try clear hk);(try clear ho0)))
        go_ret;exact⟨er_,bl_ HB⟩
       ·replace cZ:=Bool.eq_false_iff.mpr cZ;subst cZ
        rw[if_neg (show¬(false=true)by decide)]at H
        by_cases dA:bK=true
        ·subst dA
         rw[if_pos rfl]at H;obtain rfl:=Option.some.inj H;have:=cz7_ aA;have:=fz7_ aA;obtain⟨dJ,dK,eo35⟩:=Kd.N_slice aC.out;subst eo35;obtain⟨dL,dM,eo36⟩:=Kd.V_slice aD.out;subst eo36
         go_wp2_with (first|(refine gk_ 12 ?_;refine gd_ (some 29) Try.func12 (elastic_Get.calls k1 aI aH aG _ _ aL aF aE _ _ aK (⟨#[97]⟩:ByteArray) aP aR false true _ ?side1 ?side2 ?side3 ?side4 bL.out) ?_;(case side1=>exact ck_ (Kd.N_reads' aC.out).2.2);(case side2=>exact(Kd.N_reads' aC.out).2.1);(case side3=>exact ck_ (Kd.V_reads' aD.out).2.2);(case side4=>exact(Kd.V_reads' aD.out).2.1);intro cC hb;replace aJ:=rb_ aJ hb;replace aC:=nbl_ aC hb;replace aD:=vs_ aD hb;replace aA:=bb_ aA hb;replace HB:=bs_ HB hb;(try clear hb);(try clear hk);have:=cz7_ aA;have:=fz7_ aA)|(refine gk_ 13 ?_;refine gc_ (some 35) Try.func13 (elastic_List.calls k1 aI aH aG _ _ aL aF aE _ _ aK 1 aM _ ?side1 ?side2 ?side3 ?side4 bM.out) ?_;(case side1=>exact ck_ (Kd.N_reads' aC.out).2.2);(case side2=>exact(Kd.N_reads' aC.out).2.1);(case side3=>exact ck_ (Kd.V_reads' aD.out).2.2);(case side4=>exact(Kd.V_reads' aD.out).2.1);rintro e lR ⟨cB,rfl,ho0,hb⟩;refine⟨_,rfl,?_⟩;have aS:=mk_ (Kd.R_lower ho0 (below_size (bl_ HB)));replace aJ:=rb_ aJ hb;replace aC:=mk_ (Kd.N_elder' (nk_ aC) (Kd.R_base ho0) hb);replace aD:=mk_ (Kd.V_elder' (vk_ aD) (Kd.R_base ho0) hb);replace aA:=bb_ aA hb;replace HB:=bs_ HB hb;(try clear hb);(try clear hk);(try clear ho0)))
         go_ret;exact⟨er_,bl_ HB⟩
        ·replace dA:=Bool.eq_false_iff.mpr dA;subst dA
         rw[if_neg (show¬(false=true)by decide)]at H
         by_cases cD:(aM.length:Int)=1
         ·rw[if_pos cD]at H;have gY:=beq_iff_eq.mpr cD;have gZ:=bne_eq_false_iff_eq.mpr cD;clear cD;replace H:=ip_ H;obtain⟨dB,H⟩:=H;have lS:=decide_eq_true dB;have lT:decide (0<aM.length)=true:=decide_eq_true (by omega);clear dB
          by_cases cE:((rd_T68 aM 0).f0).toList=([98]:List UInt8)
          ·rw[if_pos cE]at H;have hA:=beq_iff_eq.mpr cE;have hB:=bne_eq_false_iff_eq.mpr cE;clear cE;obtain rfl:=Option.some.inj H;have:=cz7_ aA;have:=fz7_ aA;obtain⟨dN,dO,eo44⟩:=Kd.N_slice aC.out;subst eo44;obtain⟨dP,dQ,eo45⟩:=Kd.V_slice aD.out;subst eo45
           go_wp2_with (first|(refine gk_ 12 ?_;refine gd_ (some 29) Try.func12 (elastic_Get.calls k1 aI aH aG _ _ aL aF aE _ _ aK (⟨#[97]⟩:ByteArray) aP aR false false _ ?side1 ?side2 ?side3 ?side4 bL.out) ?_;(case side1=>exact ck_ (Kd.N_reads' aC.out).2.2);(case side2=>exact(Kd.N_reads' aC.out).2.1);(case side3=>exact ck_ (Kd.V_reads' aD.out).2.2);(case side4=>exact(Kd.V_reads' aD.out).2.1);intro cF hb;replace aJ:=rb_ aJ hb;replace aC:=nbl_ aC hb;replace aD:=vs_ aD hb;replace aA:=bb_ aA hb;replace HB:=bs_ HB hb;(try clear hb);(try clear hk);have:=cz7_ aA;have:=fz7_ aA)|(refine gk_ 13 ?_;refine gc_ (some 35) Try.func13 (elastic_List.calls k1 aI aH aG _ _ aL aF aE _ _ aK 1 aM _ ?side1 ?side2 ?side3 ?side4 bM.out) ?_;(case side1=>exact ck_ (Kd.N_reads' aC.out).2.2);(case side2=>exact(Kd.N_reads' aC.out).2.1);(case side3=>exact ck_ (Kd.V_reads' aD.out).2.2);(case side4=>exact(Kd.V_reads' aD.out).2.1);rintro e mW ⟨cB,rfl,ho0,hb⟩;refine⟨_,rfl,?_⟩;have aS:=mk_ (Kd.R_lower ho0 (below_size (bl_ HB)));replace aJ:=rb_ aJ hb;replace aC:=mk_ (Kd.N_elder' (nk_ aC) (Kd.R_base ho0) hb);replace aD:=mk_ (Kd.V_elder' (vk_ aD) (Kd.R_base ho0) hb);replace aA:=bb_ aA hb;replace HB:=bs_ HB hb;(try clear hb);(try clear hk);(try clear ho0);obtain⟨mX,mY,eo49⟩:=Kd.R_slice aS.out;subst eo49;have cG:0≤(0:Int):=(by omega);have cH:0<(aM.length:Int):=od_;obtain⟨fX,e410,cI,cJ⟩:=at_T68 (Kd.R_reads' aS.out).2.2 0 cG cH;cases e410;have qi410:(0<aM.length)=True:=eq_true (by omega);(try rw[show((0:Int)).toNat=0 from rfl]at cI);(try rw[show 0*2=0 from rfl]at cI);(try rw[Addr.add_zero']at cI);(try rw[show((0:Int)).toNat=0 from rfl]at cJ);(try rw[show 0*2=0 from rfl]at cJ);(try rw[Addr.add_zero']at cJ);replace cG:=eq_true cG;replace cH:=eq_true cH;have dR:0≤(0:Int):=(by omega);have dS:0<(aM.length:Int):=od_;obtain⟨hC,e411,dT,dU⟩:=at_T68 (Kd.R_reads' aS.out).2.2 0 dR dS;obtain rfl:fX=hC:=(by injection e411);have qi411:(0<aM.length)=True:=eq_true (by omega);(try rw[show((0:Int)).toNat=0 from rfl]at dT);(try rw[show 0*2=0 from rfl]at dT);(try rw[Addr.add_zero']at dT);(try rw[show((0:Int)).toNat=0 from rfl]at dU);(try rw[show 0*2=0 from rfl]at dU);(try rw[Addr.add_zero']at dU);replace dR:=eq_true dR;replace dS:=eq_true dS))
           go_ret;exact⟨er_,bl_ HB⟩
          ·rw[if_neg cE]at H;have hA:=beq_eq_false_iff_ne.mpr cE;have hB:=bne_iff_ne.mpr cE;obtain rfl:=Option.some.inj H;have:=cz7_ aA;have:=fz7_ aA;obtain⟨dV,dW,eo51⟩:=Kd.N_slice aC.out;subst eo51;obtain⟨dX,dY,eo52⟩:=Kd.V_slice aD.out;subst eo52
           go_wp2_with (first|(refine gk_ 12 ?_;refine gd_ (some 29) Try.func12 (elastic_Get.calls k1 aI aH aG _ _ aL aF aE _ _ aK (⟨#[97]⟩:ByteArray) aP aR false false _ ?side1 ?side2 ?side3 ?side4 bL.out) ?_;(case side1=>exact ck_ (Kd.N_reads' aC.out).2.2);(case side2=>exact(Kd.N_reads' aC.out).2.1);(case side3=>exact ck_ (Kd.V_reads' aD.out).2.2);(case side4=>exact(Kd.V_reads' aD.out).2.1);intro cK hb;replace aJ:=rb_ aJ hb;replace aC:=nbl_ aC hb;replace aD:=vs_ aD hb;replace aA:=bb_ aA hb;replace HB:=bs_ HB hb;(try clear hb);(try clear hk);have:=cz7_ aA;have:=fz7_ aA)|(refine gk_ 13 ?_;refine gc_ (some 35) Try.func13 (elastic_List.calls k1 aI aH aG _ _ aL aF aE _ _ aK 1 aM _ ?side1 ?side2 ?side3 ?side4 bM.out) ?_;(case side1=>exact ck_ (Kd.N_reads' aC.out).2.2);(case side2=>exact(Kd.N_reads' aC.out).2.1);(case side3=>exact ck_ (Kd.V_reads' aD.out).2.2);(case side4=>exact(Kd.V_reads' aD.out).2.1);rintro e pB ⟨cB,rfl,ho0,hb⟩;refine⟨_,rfl,?_⟩;have aS:=mk_ (Kd.R_lower ho0 (below_size (bl_ HB)));replace aJ:=rb_ aJ hb;replace aC:=mk_ (Kd.N_elder' (nk_ aC) (Kd.R_base ho0) hb);replace aD:=mk_ (Kd.V_elder' (vk_ aD) (Kd.R_base ho0) hb);replace aA:=bb_ aA hb;replace HB:=bs_ HB hb;(try clear hb);(try clear hk);(try clear ho0);obtain⟨pC,pD,eo56⟩:=Kd.R_slice aS.out;subst eo56;have cG:0≤(0:Int):=(by omega);have cH:0<(aM.length:Int):=od_;obtain⟨fX,e410,cI,cJ⟩:=at_T68 (Kd.R_reads' aS.out).2.2 0 cG cH;cases e410;have qi410:(0<aM.length)=True:=eq_true (by omega);(try rw[show((0:Int)).toNat=0 from rfl]at cI);(try rw[show 0*2=0 from rfl]at cI);(try rw[Addr.add_zero']at cI);(try rw[show((0:Int)).toNat=0 from rfl]at cJ);(try rw[show 0*2=0 from rfl]at cJ);(try rw[Addr.add_zero']at cJ);replace cG:=eq_true cG;replace cH:=eq_true cH))
           go_ret;exact⟨er_,bl_ HB⟩
         ·rw[if_neg cD]at H;have gY:=beq_eq_false_iff_ne.mpr cD;have gZ:=bne_iff_ne.mpr cD;obtain rfl:=Option.some.inj H;have:=cz7_ aA;have:=fz7_ aA;obtain⟨dZ,fA,eo58⟩:=Kd.N_slice aC.out;subst eo58;obtain⟨fB,fC,eo59⟩:=Kd.V_slice aD.out;subst eo59
          go_wp2_with (first|(refine gk_ 12 ?_;refine gd_ (some 29) Try.func12 (elastic_Get.calls k1 aI aH aG _ _ aL aF aE _ _ aK (⟨#[97]⟩:ByteArray) aP aR false false _ ?side1 ?side2 ?side3 ?side4 bL.out) ?_;(case side1=>exact ck_ (Kd.N_reads' aC.out).2.2);(case side2=>exact(Kd.N_reads' aC.out).2.1);(case side3=>exact ck_ (Kd.V_reads' aD.out).2.2);(case side4=>exact(Kd.V_reads' aD.out).2.1);intro cL hb;replace aJ:=rb_ aJ hb;replace aC:=nbl_ aC hb;replace aD:=vs_ aD hb;replace aA:=bb_ aA hb;replace HB:=bs_ HB hb;(try clear hb);(try clear hk);have:=cz7_ aA;have:=fz7_ aA)|(refine gk_ 13 ?_;refine gc_ (some 35) Try.func13 (elastic_List.calls k1 aI aH aG _ _ aL aF aE _ _ aK 1 aM _ ?side1 ?side2 ?side3 ?side4 bM.out) ?_;(case side1=>exact ck_ (Kd.N_reads' aC.out).2.2);(case side2=>exact(Kd.N_reads' aC.out).2.1);(case side3=>exact ck_ (Kd.V_reads' aD.out).2.2);(case side4=>exact(Kd.V_reads' aD.out).2.1);rintro e qG ⟨cB,rfl,ho0,hb⟩;refine⟨_,rfl,?_⟩;have aS:=mk_ (Kd.R_lower ho0 (below_size (bl_ HB)));replace aJ:=rb_ aJ hb;replace aC:=mk_ (Kd.N_elder' (nk_ aC) (Kd.R_base ho0) hb);replace aD:=mk_ (Kd.V_elder' (vk_ aD) (Kd.R_base ho0) hb);replace aA:=bb_ aA hb;replace HB:=bs_ HB hb;(try clear hb);(try clear hk);(try clear ho0);obtain⟨qH,qI,eo63⟩:=Kd.R_slice aS.out;subst eo63))
          go_ret;exact⟨er_,bl_ HB⟩
      ·rw[if_neg cR]at H;have gX:decide (1≤aR)=false:=decide_eq_false cR;clear cR;obtain rfl:=Option.some.inj H;have:=cz7_ aA;have:=fz7_ aA;obtain⟨fD,fE,eo65⟩:=Kd.N_slice aC.out;subst eo65;obtain⟨fF,fG,eo66⟩:=Kd.V_slice aD.out;subst eo66
       go_wp2_with (first|(refine gk_ 12 ?_;refine gd_ (some 29) Try.func12 (elastic_Get.calls k1 aI aH aG _ _ aL aF aE _ _ aK (⟨#[97]⟩:ByteArray) aP aR cQ bK _ ?side1 ?side2 ?side3 ?side4 bL.out) ?_;(case side1=>exact ck_ (Kd.N_reads' aC.out).2.2);(case side2=>exact(Kd.N_reads' aC.out).2.1);(case side3=>exact ck_ (Kd.V_reads' aD.out).2.2);(case side4=>exact(Kd.V_reads' aD.out).2.1);intro cM hb;replace aJ:=rb_ aJ hb;replace aC:=nbl_ aC hb;replace aD:=vs_ aD hb;replace aA:=bb_ aA hb;replace HB:=bs_ HB hb;(try clear hb);(try clear hk);have:=cz7_ aA;have:=fz7_ aA)|(refine gk_ 13 ?_;refine gc_ (some 35) Try.func13 (elastic_List.calls k1 aI aH aG _ _ aL aF aE _ _ aK 1 aM _ ?side1 ?side2 ?side3 ?side4 bM.out) ?_;(case side1=>exact ck_ (Kd.N_reads' aC.out).2.2);(case side2=>exact(Kd.N_reads' aC.out).2.1);(case side3=>exact ck_ (Kd.V_reads' aD.out).2.2);(case side4=>exact(Kd.V_reads' aD.out).2.1);rintro e rL ⟨cB,rfl,ho0,hb⟩;refine⟨_,rfl,?_⟩;have aS:=mk_ (Kd.R_lower ho0 (below_size (bl_ HB)));replace aJ:=rb_ aJ hb;replace aC:=mk_ (Kd.N_elder' (nk_ aC) (Kd.R_base ho0) hb);replace aD:=mk_ (Kd.V_elder' (vk_ aD) (Kd.R_base ho0) hb);replace aA:=bb_ aA hb;replace HB:=bs_ HB hb;(try clear hb);(try clear hk);(try clear ho0)))
       go_ret;exact⟨er_,bl_ HB⟩
     ·rw[if_neg bZ]at H;have gV:=beq_eq_false_iff_ne.mpr bZ;have gW:=bne_iff_ne.mpr bZ;obtain rfl:=Option.some.inj H;have:=cz7_ aA;have:=fz7_ aA;obtain⟨fH,fI,eo71⟩:=Kd.N_slice aC.out;subst eo71;obtain⟨fJ,fK,eo72⟩:=Kd.V_slice aD.out;subst eo72
      go_wp2_with (first|(refine gk_ 12 ?_;refine gd_ (some 29) Try.func12 (elastic_Get.calls k1 aI aH aG _ _ aL aF aE _ _ aK (⟨#[97]⟩:ByteArray) aP aR cQ bK _ ?side1 ?side2 ?side3 ?side4 bL.out) ?_;(case side1=>exact ck_ (Kd.N_reads' aC.out).2.2);(case side2=>exact(Kd.N_reads' aC.out).2.1);(case side3=>exact ck_ (Kd.V_reads' aD.out).2.2);(case side4=>exact(Kd.V_reads' aD.out).2.1);intro cN hb;replace aJ:=rb_ aJ hb;replace aC:=nbl_ aC hb;replace aD:=vs_ aD hb;replace aA:=bb_ aA hb;replace HB:=bs_ HB hb;(try clear hb);(try clear hk);have:=cz7_ aA;have:=fz7_ aA)|(refine gk_ 13 ?_;refine gc_ (some 35) Try.func13 (elastic_List.calls k1 aI aH aG _ _ aL aF aE _ _ aK 1 aM _ ?side1 ?side2 ?side3 ?side4 bM.out) ?_;(case side1=>exact ck_ (Kd.N_reads' aC.out).2.2);(case side2=>exact(Kd.N_reads' aC.out).2.1);(case side3=>exact ck_ (Kd.V_reads' aD.out).2.2);(case side4=>exact(Kd.V_reads' aD.out).2.1);rintro e sO ⟨cB,rfl,ho0,hb⟩;refine⟨_,rfl,?_⟩;have aS:=mk_ (Kd.R_lower ho0 (below_size (bl_ HB)));replace aJ:=rb_ aJ hb;replace aC:=mk_ (Kd.N_elder' (nk_ aC) (Kd.R_base ho0) hb);replace aD:=mk_ (Kd.V_elder' (vk_ aD) (Kd.R_base ho0) hb);replace aA:=bb_ aA hb;replace HB:=bs_ HB hb;(try clear hb);(try clear hk);(try clear ho0)))
      go_ret;exact⟨er_,bl_ HB⟩
    ·rw[if_neg bY]at H;have gT:=beq_eq_false_iff_ne.mpr bY;have gU:=bne_iff_ne.mpr bY;obtain rfl:=Option.some.inj H;have:=cz7_ aA;have:=fz7_ aA;obtain⟨fL,fM,eo77⟩:=Kd.N_slice aC.out;subst eo77;obtain⟨fN,fO,eo78⟩:=Kd.V_slice aD.out;subst eo78
     go_wp2_with (first|(refine gk_ 12 ?_;refine gd_ (some 29) Try.func12 (elastic_Get.calls k1 aI aH aG _ _ aL aF aE _ _ aK (⟨#[97]⟩:ByteArray) aP aR cQ bK _ ?side1 ?side2 ?side3 ?side4 bL.out) ?_;(case side1=>exact ck_ (Kd.N_reads' aC.out).2.2);(case side2=>exact(Kd.N_reads' aC.out).2.1);(case side3=>exact ck_ (Kd.V_reads' aD.out).2.2);(case side4=>exact(Kd.V_reads' aD.out).2.1);intro cO hb;replace aJ:=rb_ aJ hb;replace aC:=nbl_ aC hb;replace aD:=vs_ aD hb;replace aA:=bb_ aA hb;replace HB:=bs_ HB hb;(try clear hb);(try clear hk);have:=cz7_ aA;have:=fz7_ aA)|(refine gk_ 13 ?_;refine gc_ (some 35) Try.func13 (elastic_List.calls k1 aI aH aG _ _ aL aF aE _ _ aK 1 aM _ ?side1 ?side2 ?side3 ?side4 bM.out) ?_;(case side1=>exact ck_ (Kd.N_reads' aC.out).2.2);(case side2=>exact(Kd.N_reads' aC.out).2.1);(case side3=>exact ck_ (Kd.V_reads' aD.out).2.2);(case side4=>exact(Kd.V_reads' aD.out).2.1);rintro e tR ⟨cB,rfl,ho0,hb⟩;refine⟨_,rfl,?_⟩;have aS:=mk_ (Kd.R_lower ho0 (below_size (bl_ HB)));replace aJ:=rb_ aJ hb;replace aC:=mk_ (Kd.N_elder' (nk_ aC) (Kd.R_base ho0) hb);replace aD:=mk_ (Kd.V_elder' (vk_ aD) (Kd.R_base ho0) hb);replace aA:=bb_ aA hb;replace HB:=bs_ HB hb;(try clear hb);(try clear hk);(try clear ho0)))
     go_ret;exact⟨er_,bl_ HB⟩
end Go.Proofs.Ytljmjjeghebdpaa.PElasticTurns
