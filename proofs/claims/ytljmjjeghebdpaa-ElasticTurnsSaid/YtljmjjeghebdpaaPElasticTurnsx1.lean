/- Functions, each as a plain function, with the proof that a call comes to its answer. Condition of each: the arguments read as the data that it names, and the plain function has an answer. -/
import Derived.Test.YtljmjjeghebdpaaPElasticTurnsx0
import Derived.Test.YtljmjjeghebdpaaShort
import Derived.Lib.SliceRun
import Derived.Test.YtljmjjeghebdpaaPressMore
namespace Go.Proofs.Ytljmjjeghebdpaa.PElasticTurns
open Go.RowKit Go.Proofs.YtljmjjeghebdpaaW.PrintWords Go.Proofs.YtljmjjeghebdpaaW.PrintLast Go.Proofs.YtljmjjeghebdpaaW.PrintMore Go.Proofs.Ytljmjjeghebdpaa.Short Go.Proofs.Ytljmjjeghebdpaa.Press Go.Proofs.Ytljmjjeghebdpaa.PressMore
set_option maxHeartbeats 80000000
set_option maxRecDepth 100000
attribute [local go_sem] max2_int min2_int max_two min_two max_three min_three max_four min_four
set_option linter.unusedVariables false
set_option linter.unusedSimpArgs false
mutual
def rillmeterlaw15_ref.l0:Nat→List (S56)→Int→Int→Int→Int→Int→List (S74)→Int→Int→List (List Int)→Option (Int × Int × Int × (List (S74)) × Int × Int × (List (List Int)))
  |0,_,_,_,_,_,_,_,_,_,_=>none
  |k+1,a,b,c,d,e,f,g,h,i,j=>if c<b then(if 0≤c then(if c<(a.length:Int)then(rillmeterlaw15_ref.l1 k a b c ((rd_T56 a c).f0) (((rd_T56 a c).f0).length:Int) 0 d e f g h i j ([]:List (S77)) ((rd_T56 a c).f1))else(none))else(none))else(some (d,e,f,g,h,i,j))
def rillmeterlaw15_ref.l1:Nat→List (S56)→Int→Int→List (S76)→Int→Int→Int→Int→Int→List (S74)→Int→Int→List (List Int)→List (S77)→Int→Option (Int × Int × Int × (List (S74)) × Int × Int × (List (List Int)))
  |0,_,_,_,_,_,_,_,_,_,_,_,_,_,_,_=>none
  |k+1,a,b,c,d,e,f,g,h,i,j,l,m,n,o,p=>if f<e then(if 0≤f then(if f<(d.length:Int)then(if o.length<4398046511104 then(rillmeterlaw15_ref.l1 k a b c d e (wrap64 (f+1)) g h i j l m n (o++[(⟨(rd_T76 d f).f0,(rd_T76 d f).f1,(rd_T76 d f).f2⟩:S77)]) p)else(none))else(none))else(none))else(if j.length<4398046511104 then(rillmeterlaw15_ref.l0 k a b (wrap64 (c+1)) g h i (j++[(⟨o,p⟩:S74)]) l m n)else(none))
end
def rillmeterlaw15_ref.f (k:Nat)(a0_0 a0_1 a0_2:Int)(l0_3:List (S56))(a0_4 a0_5:Int)(l0_6:List (List Int)):Option (Int × Int × Int × (List (S74)) × Int × Int × (List (List Int))):=rillmeterlaw15_ref.l0 k l0_3 (l0_3.length:Int) 0 a0_0 a0_1 a0_2 ([]:List (S74)) a0_4 a0_5 l0_6
theorem rillmeterlaw15_ref.mono_l:∀k,(∀y0 y1 y2 y3 y4 y5 y6 y7 y8 y9,LeO (rillmeterlaw15_ref.l0 k y0 y1 y2 y3 y4 y5 y6 y7 y8 y9) (rillmeterlaw15_ref.l0 (k+1) y0 y1 y2 y3 y4 y5 y6 y7 y8 y9))∧(∀y0 y1 y2 y3 y4 y5 y6 y7 y8 y9 y10 y11 y12 y13 y14,LeO (rillmeterlaw15_ref.l1 k y0 y1 y2 y3 y4 y5 y6 y7 y8 y9 y10 y11 y12 y13 y14) (rillmeterlaw15_ref.l1 (k+1) y0 y1 y2 y3 y4 y5 y6 y7 y8 y9 y10 y11 y12 y13 y14))
  |0=>⟨fun _ _ _ _ _ _ _ _ _ _ r h=>by simp[rillmeterlaw15_ref.l0]at h,fun _ _ _ _ _ _ _ _ _ _ _ _ _ _ _ r h=>by simp[rillmeterlaw15_ref.l1]at h⟩
  |k+1=>by
    obtain⟨ih0,ih1⟩:=rillmeterlaw15_ref.mono_l k
    refine⟨?_,?_⟩<;>intros
    all_goals first|unfold rillmeterlaw15_ref.l0|unfold rillmeterlaw15_ref.l1
    all_goals repeat' with_reducible first|exact ih0 .. |exact ih1 .. |exact LeO.refl _|exact LeO.none _|refine LeO.ite ?_ ?_|refine LeO.bind ?_ (fun _=>?_)
theorem rillmeterlaw15_ref.mono:∀a0 a1 a2 a3 a4 a5 a6 k,LeO (rillmeterlaw15_ref.f k a0 a1 a2 a3 a4 a5 a6) (rillmeterlaw15_ref.f (k+1) a0 a1 a2 a3 a4 a5 a6):=by
  intro a0 a1 a2 a3 a4 a5 a6 k
  obtain⟨ih0,ih1⟩:=rillmeterlaw15_ref.mono_l k
  unfold rillmeterlaw15_ref.f
  repeat' with_reducible first|exact ih0 .. |exact ih1 .. |exact LeO.refl _|exact LeO.none _|refine LeO.ite ?_ ?_|refine LeO.bind ?_ (fun _=>?_)
theorem rillmeterlaw15_ref.calls (k:Nat)(a0_0 a0_1 a0_2:Int)(A0_3:Option Addr)(c0_3:Nat)(l0_3:List (S56))(a0_4 a0_5:Int)(P0_6_:Nat→Prop)(A0_6:Option Addr)(c0_6:Nat)(l0_6:List (List Int))(r1 r2 r3:Int)(r4:List (S74))(r5 r6:Int)(r7:List (List Int))(w:World)(hr0_3:Kd.C k56 w A0_3 l0_3.length l0_3)(hc0_3:l0_3.length≤c0_3)(hs0_6:Kd.V (Kd.slice 3 (Kd.int .i64)) 57 w w.heap.size (fun k_=>P0_6_ k_) (.slice A0_6 l0_6.length c0_6) l0_6)(h:rillmeterlaw15_ref.f k a0_0 a0_1 a0_2 l0_3 a0_4 a0_5 l0_6=some (r1,r2,r3,r4,r5,r6,r7)):
    Calls Try.prog 8 #[.agg #[.int .u64 a0_0,.int .i64 a0_1,.int .i64 a0_2,.slice A0_3 l0_3.length c0_3,.int .u64 a0_4,.int .i64 a0_5,.slice A0_6 l0_6.length c0_6]] w fun e w'=>∃v3_ v6_:Value,e=.returned (.agg #[.int .u64 r1,.int .i64 r2,.int .i64 r3,v3_,.int .u64 r5,.int .i64 r6,v6_])∧Kd.S k74 74 w' w.heap.size (fun k_=>(w.heap.size≤k_)) v3_ r4∧Kd.V (Kd.slice 3 (Kd.int .i64)) 57 w' w.heap.size (fun k_=>(P0_6_ k_∨w.heap.size≤k_)∧some k_≠(v3_:Value).ownBlock) v6_ r7∧Below w.heap.size w w':=by
 have hu28:=Try.underlying28;have hu32:=Try.underlying32;have hu26:=Try.underlying26;have hu56:=Try.underlying56;have hu74:=Try.underlying74;have hu76:=Try.underlying76;have fW:=mk_ hr0_3;have hC:=mk_ hc0_3;clear hr0_3 hc0_3;have HO0_6:=mk_ (show Kd.V (Kd.slice 3 (Kd.int .i64)) 57 w w.heap.size (fun k_=>(P0_6_ k_∨w.heap.size≤k_)) (.slice A0_6 l0_6.length c0_6) l0_6 from Kd.V_mono hs0_6 (fun k_ hk=>.inl hk));have HB:=mk_ (Below.refl w.heap.size w);have H:=h;clear h;unfold rillmeterlaw15_ref.f at H;have H':=mk_ H;clear H
 go_enter Try.func8,Try.ntmps8
 go_wp2_with (first|(refine gq_ 1 ?_;refine bx_ 1 #[.int .u64 a0_0,.int .i64 a0_1,.int .i64 a0_2,.slice A0_3 l0_3.length c0_3,.int .u64 a0_4,.int .i64 a0_5,.slice A0_6 l0_6.length c0_6] 28 ?_;intro aM hg w2 hbox hb;have aD:=mk_ (hbox);have hD:=gx_ hg HB;have hE:=gx_ hg HB;replace HO0_6:=ve_ HO0_6 hg hb;replace HB:=bs_ HB hb;clear hb hbox hg)|(refine gq_ 2 ?_;refine bx_ 2 #[.int .u64 0,.int .i64 0,.int .i64 0,.slice none 0 0,.int .u64 0,.int .i64 0,.slice none 0 0] 32 ?_;intro aJ hg w3 hbox hb;have aG:=mk_ (hbox);have hF:=gx_ hg HB;have hG:=gx_ hg HB;have cX:=nx_ hg aD;have:=cX.out;have cY:=ny_ hg aD;have:=cY.out;replace HO0_6:=ve_ HO0_6 hg hb;replace aD:=bb_ aD hb;replace HB:=bs_ HB hb;clear hb hbox hg;have:=cz7_ aD;have:=fz7_ aD)|(refine gq_ 3 ?_;refine bx_ 3 #[.int .u64 0,.int .i64 0,.int .i64 0,.slice none 0 0,.int .u64 0,.int .i64 0,.slice none 0 0] 32 ?_;intro aE hg w6 hbox hb;have aC:=mk_ (hbox);have hJ:=gx_ hg HB;have hK:=gx_ hg HB;have bA:=nx_ hg aD;have:=bA.out;have cM:=ny_ hg aD;have:=cM.out;have bB:=nx_ hg aG;have:=bB.out;have cN:=ny_ hg aG;have:=cN.out;replace HO0_6:=ve_ HO0_6 hg hb;replace aD:=bb_ aD hb;replace aG:=bb_ aG hb;replace HB:=bs_ HB hb;clear hb hbox hg;have:=cz7_ aC;have:=fz7_ aC;have:=cz7_ aD;have:=fz7_ aD))
 go_loopg [21] k (fun kq fX w'=>∃(aA:Int)(aW:List (S74))(u104003:Value),fX=.int .i64 aA∧Aside0 (rillmeterlaw15_ref.l0 kq l0_3 (l0_3.length:Int) aA a0_0 a0_1 a0_2 aW a0_4 a0_5 l0_6=some (r1,r2,r3,r4,r5,r6,r7))∧Aside0 (kq≤k)∧Aside0 (Kd.V (Kd.slice 3 (Kd.int .i64)) 57 w' w.heap.size (fun k_=>(P0_6_ k_∨w.heap.size≤k_)∧some k_≠(u104003:Value).ownBlock∧k_≠aM∧k_≠aJ∧k_≠aE) (.slice A0_6 l0_6.length c0_6) l0_6)∧Aside0 (Kd.S k74 74 w' w.heap.size (fun k_=>(w.heap.size≤k_)) u104003 aW)∧Aside0 (Kd.V (Kd.slice 3 (Kd.int .i64)) 57 w' w.heap.size (fun k_=>(P0_6_ k_∨w.heap.size≤k_)∧some k_≠(u104003:Value).ownBlock∧k_≠aM∧k_≠aJ∧k_≠aE) (.slice A0_6 l0_6.length c0_6) l0_6)∧Aside0 (w'.heap[aM]? =some (.cells #[.int .u64 a0_0,.int .i64 a0_1,.int .i64 a0_2,(.slice A0_3 l0_3.length c0_3),.int .u64 a0_4,.int .i64 a0_5,(.slice A0_6 l0_6.length c0_6)] 28 (0,0)))∧Aside0 (w'.heap[aJ]? =some (.cells #[.int .u64 0,.int .i64 0,.int .i64 0,(.slice none 0 0),.int .u64 0,.int .i64 0,(.slice none 0 0)] 32 (0,0)))∧Aside0 (w'.heap[aE]? =some (.cells #[.int .u64 a0_0,.int .i64 a0_1,.int .i64 a0_2,u104003,.int .u64 a0_4,.int .i64 a0_5,(.slice A0_6 l0_6.length c0_6)] 32 (0,0)))∧Aside0 (Below w.heap.size w w'))
 case atStart=>exact⟨(0),(([]:List (S74))),(.slice none 0 0),eq_,H',⟨Nat.le_refl _⟩,⟨by(with_reducible repeat(first|apply Kd.V_alloc|apply Kd.V_drewN|apply Kd.V_drew));exact Kd.V_mono (vf_ aE (Kd.V_mono HO0_6.out (fun k_ hk=>(⟨hk,hk.2⟩:_∧k_≠aE))) (fun _ hk=>hk.2)) (fun _ hk=>⟨hk.1.1.1.1,⟨(by simp[Value.ownBlock]),⟨hk.1.1.1.2,⟨hk.1.1.2,hk.1.2⟩⟩⟩⟩)⟩,⟨by first|(with_reducible first|exact Kd.N_nil _ _ _ _ _|exact Kd.V_nil _ _ _ _ _|exact Kd.S_nil _ _ _ _ _)|exact Kd.Q_nil _ _ _ _ _|exact Kd.R_nil _ _ _ _ _⟩,⟨by(with_reducible repeat(first|apply Kd.V_alloc|apply Kd.V_drewN|apply Kd.V_drew));exact Kd.V_mono (vf_ aE (Kd.V_mono HO0_6.out (fun k_ hk=>(⟨hk,hk.2⟩:_∧k_≠aE))) (fun _ hk=>hk.2)) (fun _ hk=>⟨hk.1.1.1.1,⟨(by simp[Value.ownBlock]),⟨hk.1.1.1.2,⟨hk.1.1.2,hk.1.2⟩⟩⟩⟩)⟩,⟨fb_⟩,⟨fb_⟩,⟨pt_ aC⟩,⟨bl_ HB⟩⟩
 case round=>
  clear H';obtain⟨aA,aW,u104003,rfl,HA,HK1,aV,aR,aU,aD,aG,aC,HB⟩:=hrel
  cases gk with
  |zero=>exact absurd HA.out (by simp[rillmeterlaw15_ref.l0])
  |succ k1=>
   have H:=HA.out;clear HA;simp only[rillmeterlaw15_ref.l0]at H
   rcases ic_ H with⟨fP,h_⟩|⟨fP,h_⟩
   ·clear H;have H:=h_;clear h_;replace H:=it_ H;obtain⟨fY,H⟩:=H;replace H:=it_ H;obtain⟨fZ,H⟩:=H;have H':=mk_ H;clear H;obtain⟨bU,bV,bQ,A104_0,c104_0,e104,bW,bX,fQ,hi104_0⟩:=aq_ (at_T56 fW.out aA)
    cases e104;(try replace bW:=bt_ HB bW);(try replace bX:=bt_ HB bX);have gA:=mk_ hi104_0;have hP:=mk_ fQ;clear hi104_0 fQ
    go_wp2_with (first|(refine gq_ 5 ?_;refine bx_ 5 #[.slice none 0 0,.int .i64 0] 56 ?_;intro aQ hg fR hbox hb;have aN:=mk_ (hbox);have hQ:=gx_ hg HB;have hR:=gx_ hg HB;have bE:=nx_ hg aD;have gB:=ny_ hg aD;have bF:=nx_ hg aG;have gC:=ny_ hg aG;have bC:=nx_ hg aC;have:=bC.out;have fS:=ny_ hg aC;have:=fS.out;replace aV:=ve_ aV hg hb;replace aR:=ss_ aR hb;replace aU:=ve_ aU hg hb;replace aD:=bb_ aD hb;replace aG:=bb_ aG hb;replace aC:=bb_ aC hb;replace HB:=bs_ HB hb;clear hb hbox hg;have hS:=gB.out;have hT:=bE.out;have hU:=gC.out;have hV:=bF.out;have:=cz2_ aN;have:=fz2_ aN)|(refine gq_ 6 ?_;refine bx_ 6 #[.slice none 0 0,.int .i64 0] 74 ?_;intro aH hg bY hbox hb;have aK:=mk_ (hbox);have hY:=gx_ hg HB;have hZ:=gx_ hg HB;have bH:=mk_ ((by rw[hg];exact Nat.ne_of_lt (blk_lt (g:=aM) (o:=.cells #[.int .u64 a0_0,.int .i64 a0_1,.int .i64 a0_2,.slice (some bQ) l0_3.length c0_3,.int .u64 a0_4,.int .i64 a0_5,.slice A0_6 l0_6.length c0_6] 28 (0,0)) fb_):aM≠aH));have cO:=mk_ ((by rw[hg];exact Nat.ne_of_gt (blk_lt (g:=aM) (o:=.cells #[.int .u64 a0_0,.int .i64 a0_1,.int .i64 a0_2,.slice (some bQ) l0_3.length c0_3,.int .u64 a0_4,.int .i64 a0_5,.slice A0_6 l0_6.length c0_6] 28 (0,0)) fb_):aH≠aM));have bI:=mk_ ((by rw[hg];exact Nat.ne_of_lt (blk_lt (g:=aJ) (o:=.cells #[.int .u64 0,.int .i64 0,.int .i64 0,.slice none 0 0,.int .u64 0,.int .i64 0,.slice none 0 0] 32 (0,0)) fb_):aJ≠aH));have cP:=mk_ ((by rw[hg];exact Nat.ne_of_gt (blk_lt (g:=aJ) (o:=.cells #[.int .u64 0,.int .i64 0,.int .i64 0,.slice none 0 0,.int .u64 0,.int .i64 0,.slice none 0 0] 32 (0,0)) fb_):aH≠aJ));have bJ:=mk_ ((by rw[hg];exact Nat.ne_of_lt (blk_lt (g:=aE) (o:=.cells #[.int .u64 a0_0,.int .i64 a0_1,.int .i64 a0_2,u104003,.int .u64 a0_4,.int .i64 a0_5,.slice A0_6 l0_6.length c0_6] 32 (0,0)) fb_):aE≠aH));have cQ:=mk_ ((by rw[hg];exact Nat.ne_of_gt (blk_lt (g:=aE) (o:=.cells #[.int .u64 a0_0,.int .i64 a0_1,.int .i64 a0_2,u104003,.int .u64 a0_4,.int .i64 a0_5,.slice A0_6 l0_6.length c0_6] 32 (0,0)) fb_):aH≠aE));have bK:=mk_ ((by rw[hg];exact Nat.ne_of_lt (blk_lt (g:=aQ) (o:=.cells #[.slice A104_0 ((rd_T56 l0_3 aA).f0).length c104_0,.int .i64 ((rd_T56 l0_3 aA).f1)] 56 (0,0)) (pt_ aN)):aQ≠aH));have cR:=mk_ ((by rw[hg];exact Nat.ne_of_gt (blk_lt (g:=aQ) (o:=.cells #[.slice A104_0 ((rd_T56 l0_3 aA).f0).length c104_0,.int .i64 ((rd_T56 l0_3 aA).f1)] 56 (0,0)) (pt_ aN)):aH≠aQ));replace aV:=mk_ (Kd.V_below (Kd.V_elderB (Kd.V_mono (vf_ aQ (Kd.V_mono aV.out (fun k_ hk=>(⟨hk,hk.2⟩:_∧k_≠aQ))) (fun _ hk=>hk.2)) (fun _ h_=>h_.1)) aH (Nat.le_of_eq hg.symm)) hb);replace aR:=mk_ (Kd.S_below (Kd.S_elderB (Kd.S_mono (sf_ aQ (Kd.S_types aR.out aN.out (by decide)) (fun _ hk=>hk.2)) (fun _ h_=>h_.1)) aH (Nat.le_of_eq hg.symm)) hb);replace aU:=mk_ (Kd.V_below (Kd.V_elderB (Kd.V_mono (vf_ aQ (Kd.V_mono aU.out (fun k_ hk=>(⟨hk,hk.2⟩:_∧k_≠aQ))) (fun _ hk=>hk.2)) (fun _ h_=>h_.1)) aH (Nat.le_of_eq hg.symm)) hb);replace aD:=bbf_ aD hb;replace aG:=bbf_ aG hb;replace aC:=bbf_ aC hb;replace aN:=mk_ (blk_below (g:=aQ) (o:=.cells #[.slice A104_0 ((rd_T56 l0_3 aA).f0).length c104_0,.int .i64 ((rd_T56 l0_3 aA).f1)] 56 (0,0)) (pt_ aN) hb);replace HB:=bs_ HB hb;clear hb hbox hg;have iA:=cO.out;have iB:=bH.out;have iC:=cP.out;have iD:=bI.out;have iE:=cQ.out;have iF:=bJ.out;have iG:=cR.out;have iH:=bK.out;have:=cz2_ aK;have:=fz2_ aK;have:=cz2_ aN;have:=fz2_ aN))
    go_loopg [31] k1 (fun kq gP w'=>∃(aI:Int)(aY:List (S77))(u107000:Value),gP=.int .i64 aI∧Aside0 (rillmeterlaw15_ref.l1 kq l0_3 (l0_3.length:Int) aA ((rd_T56 l0_3 aA).f0) (((rd_T56 l0_3 aA).f0).length:Int) aI a0_0 a0_1 a0_2 aW a0_4 a0_5 l0_6 aY ((rd_T56 l0_3 aA).f1)=some (r1,r2,r3,r4,r5,r6,r7))∧Aside0 (kq≤k1)∧Aside0 (Kd.V (Kd.slice 3 (Kd.int .i64)) 57 w' w.heap.size (fun k_=>(P0_6_ k_∨w.heap.size≤k_)∧some k_≠(u104003:Value).ownBlock∧some k_≠(u107000:Value).ownBlock∧k_≠aM∧k_≠aJ∧k_≠aE∧k_≠aQ∧k_≠aH) (.slice A0_6 l0_6.length c0_6) l0_6)∧Aside0 (Kd.S k74 74 w' w.heap.size (fun k_=>(w.heap.size≤k_)∧some k_≠(u107000:Value).ownBlock∧k_≠aH) u104003 aW)∧Aside0 (Kd.V (Kd.slice 3 (Kd.int .i64)) 57 w' w.heap.size (fun k_=>(P0_6_ k_∨w.heap.size≤k_)∧some k_≠(u104003:Value).ownBlock∧some k_≠(u107000:Value).ownBlock∧k_≠aM∧k_≠aJ∧k_≠aE∧k_≠aQ∧k_≠aH) (.slice A0_6 l0_6.length c0_6) l0_6)∧Aside0 (Kd.R k77 77 w' w.heap.size (fun k_=>(w.heap.size≤k_)) u107000 aY)∧Aside0 (w'.heap[aM]? =some (.cells #[.int .u64 a0_0,.int .i64 a0_1,.int .i64 a0_2,(.slice (some bQ) l0_3.length c0_3),.int .u64 a0_4,.int .i64 a0_5,(.slice A0_6 l0_6.length c0_6)] 28 (0,0)))∧Aside0 (w'.heap[aJ]? =some (.cells #[.int .u64 0,.int .i64 0,.int .i64 0,(.slice none 0 0),.int .u64 0,.int .i64 0,(.slice none 0 0)] 32 (0,0)))∧Aside0 (w'.heap[aE]? =some (.cells #[.int .u64 a0_0,.int .i64 a0_1,.int .i64 a0_2,u104003,.int .u64 a0_4,.int .i64 a0_5,(.slice A0_6 l0_6.length c0_6)] 32 (0,0)))∧Aside0 (w'.heap[aQ]? =some (.cells #[(.slice A104_0 ((rd_T56 l0_3 aA).f0).length c104_0),.int .i64 ((rd_T56 l0_3 aA).f1)] 56 (0,0)))∧Aside0 (w'.heap[aH]? =some (.cells #[u107000,.int .i64 ((rd_T56 l0_3 aA).f1)] 74 (0,0)))∧Aside0 (Below w.heap.size w w'))
    case atStart=>exact⟨(0),(([]:List (S77))),(.slice none 0 0),eq_,H',⟨Nat.le_refl _⟩,⟨by(with_reducible repeat(first|apply Kd.V_alloc|apply Kd.V_drewN|apply Kd.V_drew));exact Kd.V_mono (vf_ aH (Kd.V_mono aV.out (fun k_ hk=>(⟨hk,hk.2⟩:_∧k_≠aH))) (fun _ hk=>hk.2)) (fun _ hk=>⟨hk.1.1.1.1,⟨hk.1.1.1.2.1,⟨(by simp[Value.ownBlock]),⟨hk.1.1.1.2.2.1,⟨hk.1.1.1.2.2.2.1,⟨hk.1.1.1.2.2.2.2,⟨hk.1.1.2,hk.1.2⟩⟩⟩⟩⟩⟩⟩)⟩,⟨by(with_reducible repeat(first|apply Kd.S_alloc|apply Kd.S_drewN|apply Kd.S_drew));exact Kd.S_mono (sf_ aH (Kd.S_mono aR.out (fun k_ hk=>(⟨hk,hk.2⟩:_∧k_≠aH))) (fun _ hk=>hk.2)) (fun _ hk=>⟨hk.1.1,⟨(by simp[Value.ownBlock]),hk.1.2⟩⟩)⟩,⟨by(with_reducible repeat(first|apply Kd.V_alloc|apply Kd.V_drewN|apply Kd.V_drew));exact Kd.V_mono (vf_ aH (Kd.V_mono aU.out (fun k_ hk=>(⟨hk,hk.2⟩:_∧k_≠aH))) (fun _ hk=>hk.2)) (fun _ hk=>⟨hk.1.1.1.1,⟨hk.1.1.1.2.1,⟨(by simp[Value.ownBlock]),⟨hk.1.1.1.2.2.1,⟨hk.1.1.1.2.2.2.1,⟨hk.1.1.1.2.2.2.2,⟨hk.1.1.2,hk.1.2⟩⟩⟩⟩⟩⟩⟩)⟩,⟨by first|exact Kd.R_nil _ _ _ _ _|exact Kd.N_nil _ _ _ _ _|exact Kd.V_nil _ _ _ _ _|exact Kd.Q_nil _ _ _ _ _|exact Kd.S_nil _ _ _ _ _⟩,⟨fb_⟩,⟨fb_⟩,⟨fb_⟩,⟨fb_⟩,⟨pt_ aK⟩,⟨bl_ HB⟩⟩
    case round=>
     clear H';(try clear fP);(try clear fY);(try clear fZ)
     (try clear bW);(try clear bX);(try clear bU);(try clear bV);obtain⟨aI,aY,u107000,rfl,HA,HK2,aV,aR,aU,aX,aD,aG,aC,aN,aK,HB⟩:=hrel
     cases gk with
     |zero=>exact absurd HA.out (by simp[rillmeterlaw15_ref.l1])
     |succ k2=>
      have H:=HA.out;clear HA;simp only[rillmeterlaw15_ref.l1]at H
      rcases ic_ H with⟨gQ,h_⟩|⟨gQ,h_⟩
      ·clear H;have H:=h_;clear h_;replace H:=it_ H;obtain⟨iS,H⟩:=H;replace H:=it_ H;obtain⟨iT,H⟩:=H;replace H:=ip_ H;obtain⟨cB,H⟩:=H;have gR:=mk_ cB;clear cB;obtain⟨y109,hy109⟩:∃y_:List (S77),y_=(aY++[(⟨(rd_T76 ((rd_T56 l0_3 aA).f0) aI).f0,(rd_T76 ((rd_T56 l0_3 aA).f0) aI).f1,(rd_T76 ((rd_T56 l0_3 aA).f0) aI).f2⟩:S77)]):=⟨_,rfl⟩
       (try replace H:=(Option.bind_some _ _).symm.trans H);(try rw[←hy109]at H)
       have gS:=mk_ hy109;clear hy109;have H':=mk_ H;clear H;obtain⟨cS,cT,gT,e107,cU,cV,cW⟩:=aq_ (at_T76 gA.out aI)
       cases e107;(try replace cU:=bt_ HB cU);(try replace cV:=bt_ HB cV);(try replace cW:=bt_ HB cW)
       go_wp2_with (first|(refine gq_ 8 ?_;refine bx_ 8 #[.string (⟨#[]⟩:ByteArray),.int .i64 0,.bool false] 76 ?_;intro aT hg bR hbox hb;have aZ:=mk_ (hbox);have iU:=gx_ hg HB;have iV:=gx_ hg HB;have cC:=nx_ hg aD;have gU:=ny_ hg aD;have cD:=nx_ hg aG;have gV:=ny_ hg aG;have cE:=nx_ hg aC;have gW:=ny_ hg aC;have cF:=nx_ hg aN;have gX:=ny_ hg aN;have cG:=nx_ hg aK;have gY:=ny_ hg aK;replace aV:=ve_ aV hg hb;replace aR:=ss_ aR hb;replace aU:=ve_ aU hg hb;replace aX:=rb_ aX hb;replace aD:=bb_ aD hb;replace aG:=bb_ aG hb;replace aC:=bb_ aC hb;replace aN:=bb_ aN hb;replace aK:=bb_ aK hb;replace HB:=bs_ HB hb;clear hb hbox hg;have iW:=gU.out;have iX:=cC.out;have iY:=gV.out;have iZ:=cD.out;have jA:=gW.out;have jB:=cE.out;have jC:=gX.out;have jD:=cF.out;have jE:=gY.out;have jF:=cG.out;have:=cz3_ aZ;have:=fz3_ aZ;have jM:=cO.out;have jN:=bH.out;have jO:=cP.out;have jP:=bI.out;have jQ:=cQ.out;have jR:=bJ.out;have jS:=cR.out;have jT:=bK.out;have:=cz2_ aK;have:=fz2_ aK)|((with_reducible refine gate_builtin (b:=.append) (xs:=#[.tmp 36,.tmp 38]) rfl ?_);at_builtin;refine Kd.R_append k77 (w0:=w) w.heap.size rfl (.tmp 36) (.tmp 38) 72 77 (.agg #[(.string ⟨#[]⟩),(.int .i64 0),(.bool false)]) 32 rfl Try.underlying72 info77 rfl (by decide) (by omega) u107000 aY (⟨(rd_T76 ((rd_T56 l0_3 aA).f0) aI).f0,(rd_T76 ((rd_T56 l0_3 aA).f0) aI).f1,(rd_T76 ((rd_T56 l0_3 aA).f0) aI).f2⟩:S77) [.string ((rd_T76 ((rd_T56 l0_3 aA).f0) aI).f0),.int .i64 ((rd_T76 ((rd_T56 l0_3 aA).f0) aI).f1),.bool ((rd_T76 ((rd_T56 l0_3 aA).f0) aI).f2)] (fun k_=>(w.heap.size≤k_)) (fun _=>False) rfl (by first|(go_simp;done)|(go_simp;rfl)) ?aP (fun _ hk=>hk.elim) ?aF ?aO ?aB ?aS ?aL ?_;(case aP=>exact k77_mkM _ _ _ (⟨(rd_T76 ((rd_T56 l0_3 aA).f0) aI).f0,(rd_T76 ((rd_T56 l0_3 aA).f0) aI).f1,(rd_T76 ((rd_T56 l0_3 aA).f0) aI).f2⟩:S77));(case aB=>exact(bl_ HB));(case aF=>exact(fun k_ hk=>(Nat.le_trans (below_size (bl_ HB)) hk)));(case aO=>exact(by(with_reducible repeat(first|apply Kd.R_alloc|apply Kd.R_drewN|apply Kd.R_drew));exact Kd.R_mono (rf_ aT (Kd.R_types aX.out aZ.out (by decide)) (fun _ hk=>hk.2)) (fun _ hk=>hk.1)));(case aS=>exact(below_size (bl_ HB)));(case aL=>have:=gR.out;omega);intro jY fT ho hb hg hat;rw[←gS.out]at ho;have fU:=mk_ (ho);replace aV:=mk_ (Kd.V_afterv (ok:=(fun k_=>(P0_6_ k_∨w.heap.size≤k_)∧some k_≠(u104003:Value).ownBlock∧k_≠aM∧k_≠aJ∧k_≠aE∧k_≠aQ∧k_≠aH∧k_≠aT)) (Kd.V_mono (vf_ aT (Kd.V_mono aV.out (fun k_ hk=>(⟨hk,hk.2⟩:_∧k_≠aT))) (fun _ hk=>hk.2)) (fun _ hk=>⟨⟨hk.1.1.1,⟨hk.1.1.2.1,⟨hk.1.1.2.2.2.1,⟨hk.1.1.2.2.2.2.1,⟨hk.1.1.2.2.2.2.2.1,⟨hk.1.1.2.2.2.2.2.2.1,⟨hk.1.1.2.2.2.2.2.2.2,hk.1.2⟩⟩⟩⟩⟩⟩⟩,hk.1.1.2.2.1⟩)) hg hat);replace aR:=mk_ (Kd.S_after (ok:=(fun k_=>(w.heap.size≤k_)∧k_≠aH)) (Kd.S_mono (sf_ aT (Kd.S_types aR.out aZ.out (by decide)) (fun _ hk=>hk.2)) (fun _ hk=>⟨⟨hk.1.1,hk.1.2.2⟩,hk.1.2.1⟩)) hg hat);replace aU:=mk_ (Kd.V_afterv (ok:=(fun k_=>(P0_6_ k_∨w.heap.size≤k_)∧some k_≠(u104003:Value).ownBlock∧k_≠aM∧k_≠aJ∧k_≠aE∧k_≠aQ∧k_≠aH∧k_≠aT)) (Kd.V_mono (vf_ aT (Kd.V_mono aU.out (fun k_ hk=>(⟨hk,hk.2⟩:_∧k_≠aT))) (fun _ hk=>hk.2)) (fun _ hk=>⟨⟨hk.1.1.1,⟨hk.1.1.2.1,⟨hk.1.1.2.2.2.1,⟨hk.1.1.2.2.2.2.1,⟨hk.1.1.2.2.2.2.2.1,⟨hk.1.1.2.2.2.2.2.2.1,⟨hk.1.1.2.2.2.2.2.2.2,hk.1.2⟩⟩⟩⟩⟩⟩⟩,hk.1.1.2.2.1⟩)) hg hat);replace aD:=mk_ (blk_grown (g:=aM) (o:=.cells #[.int .u64 a0_0,.int .i64 a0_1,.int .i64 a0_2,.slice (some bQ) l0_3.length c0_3,.int .u64 a0_4,.int .i64 a0_5,.slice A0_6 l0_6.length c0_6] 28 (0,0)) fb_ hg (Kd.R_ne aX.out aD.out (by decide)));replace aG:=mk_ (blk_grown (g:=aJ) (o:=.cells #[.int .u64 0,.int .i64 0,.int .i64 0,.slice none 0 0,.int .u64 0,.int .i64 0,.slice none 0 0] 32 (0,0)) fb_ hg (Kd.R_ne aX.out aG.out (by decide)));replace aC:=mk_ (blk_grown (g:=aE) (o:=.cells #[.int .u64 a0_0,.int .i64 a0_1,.int .i64 a0_2,u104003,.int .u64 a0_4,.int .i64 a0_5,.slice A0_6 l0_6.length c0_6] 32 (0,0)) fb_ hg (Kd.R_ne aX.out aC.out (by decide)));replace aN:=mk_ (blk_grown (g:=aQ) (o:=.cells #[.slice (some gT) ((rd_T56 l0_3 aA).f0).length c104_0,.int .i64 ((rd_T56 l0_3 aA).f1)] 56 (0,0)) fb_ hg (Kd.R_ne aX.out aN.out (by decide)));replace aK:=mk_ (blk_grown (g:=aH) (o:=.cells #[u107000,.int .i64 ((rd_T56 l0_3 aA).f1)] 74 (0,0)) fb_ hg (Kd.R_ne aX.out aK.out (by decide)));replace aZ:=mk_ (blk_grown (g:=aT) (o:=.cells #[.string ((rd_T76 ((rd_T56 l0_3 aA).f0) aI).f0),.int .i64 ((rd_T76 ((rd_T56 l0_3 aA).f0) aI).f1),.bool ((rd_T76 ((rd_T56 l0_3 aA).f0) aI).f2)] 76 (0,0)) (pt_ aZ) hg (Kd.R_ne aX.out aZ.out (by decide)));replace HB:=mk_ (hb);clear aX;clear ho hb hg hat;obtain⟨bS,bT,eo43⟩:=Kd.R_slice fU.out;subst eo43;have:=cz2_ aK;have:=fz2_ aK))
       go_roundg k2
       case measure=>have:=HK1.out;have:=HK2.out;omega
       case rel=>exact⟨(wrap64 (aI+1)),(y109),(.slice bS y109.length bT),eq_,H',⟨by have:=HK1.out;have:=HK2.out;omega⟩,⟨by(with_reducible repeat(first|apply Kd.V_alloc|apply Kd.V_drewN|apply Kd.V_drew));exact Kd.V_mono (vf_ aH (Kd.V_mono aV.out (fun k_ hk=>(⟨hk,hk.1.2.2.2.2.2.2.1⟩:_∧k_≠aH))) (fun _ hk=>hk.2)) (fun _ hk=>⟨hk.1.1.1,⟨hk.1.1.2.1,⟨hk.1.2,⟨hk.1.1.2.2.1,⟨hk.1.1.2.2.2.1,⟨hk.1.1.2.2.2.2.1,⟨hk.1.1.2.2.2.2.2.1,hk.1.1.2.2.2.2.2.2.1⟩⟩⟩⟩⟩⟩⟩)⟩,⟨by(with_reducible repeat(first|apply Kd.S_alloc|apply Kd.S_drewN|apply Kd.S_drew));exact Kd.S_mono (sf_ aH (Kd.S_mono aR.out (fun k_ hk=>(⟨hk,hk.1.2⟩:_∧k_≠aH))) (fun _ hk=>hk.2)) (fun _ hk=>⟨hk.1.1.1,⟨hk.1.2,hk.1.1.2⟩⟩)⟩,⟨by(with_reducible repeat(first|apply Kd.V_alloc|apply Kd.V_drewN|apply Kd.V_drew));exact Kd.V_mono (vf_ aH (Kd.V_mono aU.out (fun k_ hk=>(⟨hk,hk.1.2.2.2.2.2.2.1⟩:_∧k_≠aH))) (fun _ hk=>hk.2)) (fun _ hk=>⟨hk.1.1.1,⟨hk.1.1.2.1,⟨hk.1.2,⟨hk.1.1.2.2.1,⟨hk.1.1.2.2.2.1,⟨hk.1.1.2.2.2.2.1,⟨hk.1.1.2.2.2.2.2.1,hk.1.1.2.2.2.2.2.2.1⟩⟩⟩⟩⟩⟩⟩)⟩,⟨by(with_reducible repeat(first|apply Kd.R_alloc|apply Kd.R_drewN|apply Kd.R_drew));exact Kd.R_mono (rf_ aH (Kd.R_types fU.out aK.out (by decide)) (fun _ hk=>hk.2)) (fun _ hk=>hk.1)⟩,⟨fb_⟩,⟨fb_⟩,⟨fb_⟩,⟨fb_⟩,⟨pt_ aK⟩,⟨bl_ HB⟩⟩
      ·clear H;have H:=h_;clear h_;replace H:=ip_ H;obtain⟨cH,H⟩:=H;have gZ:=mk_ cH;clear cH;obtain⟨y112,hy112⟩:∃y_:List (S74),y_=(aW++[(⟨aY,((rd_T56 l0_3 aA).f1)⟩:S74)]):=⟨_,rfl⟩
       (try replace H:=(Option.bind_some _ _).symm.trans H);(try rw[←hy112]at H)
       have hA:=mk_ hy112;clear hy112;have H':=mk_ H;clear H;have lJ:=bJ.out;have lK:=cQ.out;have:=cz7_ aC;have:=fz7_ aC;have lZ:=cO.out;have mA:=bH.out;have mB:=cP.out;have mC:=bI.out;have mD:=cR.out
       have mE:=bK.out;have:=cz2_ aK;have:=fz2_ aK;obtain⟨cI,cJ,eo56⟩:=Kd.R_slice aX.out;subst eo56
       go_wp2_with (first|((with_reducible refine gate_builtin (b:=.append) (xs:=#[.tmp 43,.tmp 45]) rfl ?_);at_builtin;refine Kd.S_append k74 (w0:=w) w.heap.size rfl (.tmp 43) (.tmp 45) 29 74 (.agg #[(.slice none 0 0),(.int .i64 0)]) 32 rfl Try.underlying29 info74 rfl (by decide) (by omega) u104003 aW (⟨aY,((rd_T56 l0_3 aA).f1)⟩:S74) [.slice cI aY.length cJ,.int .i64 ((rd_T56 l0_3 aA).f1)] (fun k_=>(w.heap.size≤k_)∧k_≠aH) (fun k_=>some k_=(.slice cI aY.length cJ:Value).ownBlock) rfl rfl ?aP (fun k_ hB=>((Kd.R_mono (ok':=fun k_=>((fun k_=>(w.heap.size≤k_)∧k_≠aH)) k_∧some k_≠(u104003:Value).ownBlock) (Kd.R_types (Kd.R_apart' (aX.out) (Kd.S_typed aR.out) (by decide)) aK.out (by decide)) (fun k_ hk=>⟨⟨hk.1.1,hk.2⟩,hk.1.2⟩))).1 k_ hB.symm) ?aF ?aO ?aB ?aS ?aL ?_;(case aP=>exact k74_mkM _ _ _ (⟨aY,((rd_T56 l0_3 aA).f1)⟩:S74) (Kd.R_mono (Kd.R_tight rfl (Kd.R_mono (ok':=fun k_=>((fun k_=>(w.heap.size≤k_)∧k_≠aH)) k_∧some k_≠(u104003:Value).ownBlock) (Kd.R_types (Kd.R_apart' (aX.out) (Kd.S_typed aR.out) (by decide)) aK.out (by decide)) (fun k_ hk=>⟨⟨hk.1.1,hk.2⟩,hk.1.2⟩))) (fun _ h_=>h_)));(case aB=>exact(bl_ HB));(case aF=>exact(fun k_ hk=>⟨(Nat.le_trans (below_size (bl_ HB)) hk),Kd.freshB (bk_ aK) k_ hk⟩));(case aO=>exact(sl_ (Kd.S_mono aR.out (fun k_ hk=>⟨⟨hk.1,hk.2.2⟩,fun e_=>hk.2.1 e_⟩))));(case aS=>exact(below_size (bl_ HB)));(case aL=>have:=gZ.out;omega);intro mJ bG ho hb hg hat;rw[←hA.out]at ho;have fV:=mk_ (ho);replace aV:=mk_ (Kd.V_afterv (ok:=(fun k_=>(P0_6_ k_∨w.heap.size≤k_)∧some k_≠(.slice cI aY.length cJ:Value).ownBlock∧k_≠aM∧k_≠aJ∧k_≠aE∧k_≠aQ∧k_≠aH)) (vl_ (Kd.V_mono aV.out (fun _ hk=>⟨⟨hk.1,⟨hk.2.2.1,⟨hk.2.2.2.1,⟨hk.2.2.2.2.1,⟨hk.2.2.2.2.2.1,⟨hk.2.2.2.2.2.2.1,hk.2.2.2.2.2.2.2⟩⟩⟩⟩⟩⟩,hk.2.1⟩))) hg hat);replace aU:=mk_ (Kd.V_afterv (ok:=(fun k_=>(P0_6_ k_∨w.heap.size≤k_)∧some k_≠(.slice cI aY.length cJ:Value).ownBlock∧k_≠aM∧k_≠aJ∧k_≠aE∧k_≠aQ∧k_≠aH)) (vl_ (Kd.V_mono aU.out (fun _ hk=>⟨⟨hk.1,⟨hk.2.2.1,⟨hk.2.2.2.1,⟨hk.2.2.2.2.1,⟨hk.2.2.2.2.2.1,⟨hk.2.2.2.2.2.2.1,hk.2.2.2.2.2.2.2⟩⟩⟩⟩⟩⟩,hk.2.1⟩))) hg hat);replace aD:=mk_ (blk_grown (bk_ aD) hg (Kd.S_ne aR.out aD.out (by decide)));replace aG:=mk_ (blk_grown (bk_ aG) hg (Kd.S_ne aR.out aG.out (by decide)));replace aC:=mk_ (blk_grown (bk_ aC) hg (Kd.S_ne aR.out aC.out (by decide)));replace aN:=mk_ (blk_grown (bk_ aN) hg (Kd.S_ne aR.out aN.out (by decide)));replace aK:=mk_ (blk_grown (bk_ aK) hg (Kd.S_away aR.out (fun _ hk=>hk.2.2)));replace HB:=mk_ (hb);clear aR;clear aX;clear ho hb hg hat;obtain⟨cK,cL,eo57⟩:=Kd.S_slice fV.out;subst eo57;have:=cz7_ aC;have:=fz7_ aC))
       go_roundg k2
       case measure=>have:=HK1.out;have:=HK2.out;omega
       case rel=>exact⟨(wrap64 (aA+1)),(y112),(.slice cK y112.length cL),eq_,H',⟨by have:=HK1.out;have:=HK2.out;omega⟩,⟨by(with_reducible repeat(first|apply Kd.V_alloc|apply Kd.V_drewN|apply Kd.V_drew));exact Kd.V_mono (vf_ aE (Kd.V_mono aV.out (fun k_ hk=>(⟨hk,hk.1.2.2.2.2.1⟩:_∧k_≠aE))) (fun _ hk=>hk.2)) (fun _ hk=>⟨hk.1.1.1,⟨hk.1.2,⟨hk.1.1.2.2.1,⟨hk.1.1.2.2.2.1,hk.1.1.2.2.2.2.1⟩⟩⟩⟩)⟩,⟨by(with_reducible repeat(first|apply Kd.S_alloc|apply Kd.S_drewN|apply Kd.S_drew));exact Kd.S_mono (sf_ aE (Kd.S_types fV.out aC.out (by decide)) (fun _ hk=>hk.2)) (fun _ hk=>hk.1.1)⟩,⟨by(with_reducible repeat(first|apply Kd.V_alloc|apply Kd.V_drewN|apply Kd.V_drew));exact Kd.V_mono (vf_ aE (Kd.V_mono aU.out (fun k_ hk=>(⟨hk,hk.1.2.2.2.2.1⟩:_∧k_≠aE))) (fun _ hk=>hk.2)) (fun _ hk=>⟨hk.1.1.1,⟨hk.1.2,⟨hk.1.1.2.2.1,⟨hk.1.1.2.2.2.1,hk.1.1.2.2.2.2.1⟩⟩⟩⟩)⟩,⟨fb_⟩,⟨fb_⟩,⟨pt_ aC⟩,⟨bl_ HB⟩⟩
   ·clear H;have H:=h_;clear h_;simp only[Option.some.injEq,Prod.mk.injEq]at H;obtain⟨rfl,rfl,rfl,rfl,rfl,rfl,rfl⟩:=H;have:=cz7_ aC;have:=fz7_ aC;have:=cz7_ aG;have:=fz7_ aG;obtain⟨bM,bN,eo64⟩:=Kd.S_slice aR.out;subst eo64
    go_wp2
    refine bodyPost_ret (results_cell_row rfl _ _ aJ 32 #[.int .u64 a0_0,.int .i64 a0_1,.int .i64 a0_2,.slice bM aW.length bN,.int .u64 a0_4,.int .i64 a0_5,.slice A0_6 l0_6.length c0_6] (0,0) _ rfl (pt_ aG) Try.underlying32 rfl (by kernel_rfl)) rfl ?_
    exact⟨_,_,er_,by(with_reducible repeat(first|apply Kd.S_alloc|apply Kd.S_drewN|apply Kd.S_drew));exact Kd.S_mono (sf_ aJ (Kd.S_types aR.out aG.out (by decide)) (fun _ hk=>hk.2)) (fun _ hk=>hk.1),by(with_reducible repeat(first|apply Kd.V_alloc|apply Kd.V_drewN|apply Kd.V_drew));exact Kd.V_mono (vf_ aJ (Kd.V_mono aU.out (fun k_ hk=>(⟨hk,hk.2.2.2.1⟩:_∧k_≠aJ))) (fun _ hk=>hk.2)) (fun _ hk=>⟨hk.1.1,hk.1.2.1⟩),bl_ HB⟩
def rillmeterref11_Small.l0:Nat→List (List Int)→Int→Option (Bool)
  |0,_,_=>none
  |k+1,a,b=>if b<(a.length:Int)then(if 0≤b then(if((rd_L9 a b).length:Int)>300 then(some false)else(rillmeterref11_Small.l0 k a (wrap64 (b+1))))else(none))else(some (decide ((a.length:Int)<20)))
def rillmeterref11_Small.f (k:Nat)(l0:List (List Int)):Option (Bool):=rillmeterref11_Small.l0 k l0 0
theorem rillmeterref11_Small.mono_l:∀k,(∀y0 y1,LeO (rillmeterref11_Small.l0 k y0 y1) (rillmeterref11_Small.l0 (k+1) y0 y1))
  |0=>fun _ _ r h=>by simp[rillmeterref11_Small.l0]at h
  |k+1=>by
    have ih0:=rillmeterref11_Small.mono_l k
    · intro y0 y1
      unfold rillmeterref11_Small.l0
      repeat' with_reducible first|exact ih0 .. |exact LeO.refl _|exact LeO.none _|refine LeO.ite ?_ ?_|refine LeO.bind ?_ (fun _=>?_)
theorem rillmeterref11_Small.mono:∀a0 k,LeO (rillmeterref11_Small.f k a0) (rillmeterref11_Small.f (k+1) a0):=by
  intro a0 k
  have ih0:=rillmeterref11_Small.mono_l k
  unfold rillmeterref11_Small.f
  repeat' with_reducible first|exact ih0 .. |exact LeO.refl _|exact LeO.none _|refine LeO.ite ?_ ?_|refine LeO.bind ?_ (fun _=>?_)
theorem rillmeterref11_Small.calls (k:Nat)(A0:Option Addr)(c0:Nat)(l0:List (List Int))(r:Bool)(w:World)(hr0:Kd.C (Kd.slice 3 (Kd.int .i64)) w A0 l0.length l0)(hc0:l0.length≤c0)(h:rillmeterref11_Small.f k l0=some r):
    Calls Try.prog 27 #[.slice A0 l0.length c0] w fun e w'=>e=.returned (.bool r)∧Drawn0 w w':=by
 have HR0:=mk_ hr0;have HC0:=mk_ hc0;clear hr0 hc0;have H:(rillmeterref11_Small.l0 k l0 0)=some r:=h;clear h;have H':=mk_ H;clear H
 go_enter Try.func27,Try.ntmps27
 go_wp2
 go_loopg [3] k (fun kq v3 w'=>∃(aA:Int),v3=.int .i64 aA∧Aside0 (rillmeterref11_Small.l0 kq l0 aA=some r)∧Aside0 (kq≤k)∧Drawn0 w w')
 case atStart=>exact⟨(0),eq_,H',⟨Nat.le_refl _⟩,by repeat(first|exact Drawn0.refl _|apply Drawn0.step)⟩
 case round=>
  clear H';obtain⟨aA,rfl,HA,HK1,⟨m1,rfl⟩⟩:=hrel
  cases gk with
  |zero=>exact absurd HA.out (by simp[rillmeterref11_Small.l0])
  |succ k1=>
   have H:=HA.out;clear HA;simp only[rillmeterref11_Small.l0]at H
   rcases ic_ H with⟨aG,h_⟩|⟨aG,h_⟩
   ·clear H;have H:=h_;clear h_;replace H:=it_ H;obtain⟨aQ,H⟩:=H
    by_cases c4:((rd_L9 l0 aA).length:Int)>300
    ·rw[if_pos c4]at H;have aH:decide (300<((rd_L9 l0 aA).length:Int))=true:=decide_eq_true c4;have aI:decide (300<(rd_L9 l0 aA).length)=true:=decide_eq_true (by omega);clear c4;obtain rfl:=Option.some.inj H;obtain⟨aC,aD,aJ,A115_0,c115_0,e115,aK,aE,hi115_0⟩:=aq_ (at_L9 HR0.out aA)
     cases e115;have aM:=mk_ hi115_0;have aN:=mk_ aE;clear hi115_0 aE
     go_wp2
     go_ret;exact⟨by first|rfl|(simp;done)|(simp[*];done),by repeat(first|exact Drawn0.refl _|apply Drawn0.step)⟩
    ·rw[if_neg c4]at H;have aH:decide (300<((rd_L9 l0 aA).length:Int))=false:=decide_eq_false c4;have aI:decide (300<(rd_L9 l0 aA).length)=false:=decide_eq_false (by omega);clear c4;have H':=mk_ H;clear H;obtain⟨aC,aD,aJ,A115_0,c115_0,e115,aK,aE,hi115_0⟩:=aq_ (at_L9 HR0.out aA)
     cases e115;have aM:=mk_ hi115_0;have aN:=mk_ aE;clear hi115_0 aE
     go_wp2
     go_roundg k1
     case measure=>have:=HK1.out;omega
     case rel=>exact⟨(wrap64 (aA+1)),eq_,H',⟨by have:=HK1.out;omega⟩,by repeat(first|exact Drawn0.refl _|apply Drawn0.step)⟩
   ·clear H;have H:=h_;clear h_;obtain rfl:=Option.some.inj H
    go_wp2
    go_ret;exact⟨by first|rfl|(simp;done)|(simp[*];done),by repeat(first|exact Drawn0.refl _|apply Drawn0.step)⟩
mutual
def rillmeterref15_Small.j0:Nat→Bool→Int→Int→Int→List (S74)→Int→Int→List (List Int)→Option (Bool)
  |0,_,_,_,_,_,_,_,_=>none
  |k+1,a,b,c,d,e,f,g,h=>if a=true then(some false)else(rillmeterref15_Small.l0 k 0 b c d e f g h)
def rillmeterref15_Small.l0:Nat→Int→Int→Int→Int→List (S74)→Int→Int→List (List Int)→Option (Bool)
  |0,_,_,_,_,_,_,_,_=>none
  |k+1,a,b,c,d,e,f,g,h=>if a<(e.length:Int)then(if 0≤a then(if(((rd_T74 e a).f0).length:Int)>20 then(some false)else(rillmeterref15_Small.l1 k a ((rd_T74 e a).f0) (((rd_T74 e a).f0).length:Int) 0 b c d e f g h))else(none))else(some true)
def rillmeterref15_Small.l1:Nat→Int→List (S77)→Int→Int→Int→Int→Int→List (S74)→Int→Int→List (List Int)→Option (Bool)
  |0,_,_,_,_,_,_,_,_,_,_,_=>none
  |k+1,a,b,c,d,e,f,g,h,i,j,l=>if d<c then(if 0≤d then(if d<(b.length:Int)then(if(((rd_T77 b d).f0).size:Int)>100 then(some false)else(rillmeterref15_Small.l1 k a b c (wrap64 (d+1)) e f g h i j l))else(none))else(none))else(rillmeterref15_Small.l0 k (wrap64 (a+1)) e f g h i j l)
end
def rillmeterref15_Small.f (k:Nat)(a0_0 a0_1 a0_2:Int)(l0_3:List (S74))(a0_4 a0_5:Int)(l0_6:List (List Int)):Option (Bool):=if(l0_3.length:Int)>300 then(rillmeterref15_Small.j0 k true a0_0 a0_1 a0_2 l0_3 a0_4 a0_5 l0_6)else((rillmeterref11_Small.f k l0_6).bind fun t117=>(rillmeterref15_Small.j0 k (!t117) a0_0 a0_1 a0_2 l0_3 a0_4 a0_5 l0_6))
theorem rillmeterref15_Small.mono_l:∀k,(∀y0 y1 y2 y3 y4 y5 y6 y7,LeO (rillmeterref15_Small.j0 k y0 y1 y2 y3 y4 y5 y6 y7) (rillmeterref15_Small.j0 (k+1) y0 y1 y2 y3 y4 y5 y6 y7))∧(∀y0 y1 y2 y3 y4 y5 y6 y7,LeO (rillmeterref15_Small.l0 k y0 y1 y2 y3 y4 y5 y6 y7) (rillmeterref15_Small.l0 (k+1) y0 y1 y2 y3 y4 y5 y6 y7))∧(∀y0 y1 y2 y3 y4 y5 y6 y7 y8 y9 y10,LeO (rillmeterref15_Small.l1 k y0 y1 y2 y3 y4 y5 y6 y7 y8 y9 y10) (rillmeterref15_Small.l1 (k+1) y0 y1 y2 y3 y4 y5 y6 y7 y8 y9 y10))
  |0=>⟨fun _ _ _ _ _ _ _ _ r h=>by simp[rillmeterref15_Small.j0]at h,fun _ _ _ _ _ _ _ _ r h=>by simp[rillmeterref15_Small.l0]at h,fun _ _ _ _ _ _ _ _ _ _ _ r h=>by simp[rillmeterref15_Small.l1]at h⟩
  |k+1=>by
    obtain⟨ih0,ih1,ih2⟩:=rillmeterref15_Small.mono_l k
    refine⟨?_,?_,?_⟩<;>intros
    all_goals first|unfold rillmeterref15_Small.j0|unfold rillmeterref15_Small.l0|unfold rillmeterref15_Small.l1
    all_goals repeat' with_reducible first|exact ih0 .. |exact ih1 .. |exact ih2 .. |exact rillmeterref11_Small.mono .. |exact LeO.refl _|exact LeO.none _|refine LeO.ite ?_ ?_|refine LeO.bind ?_ (fun _=>?_)
theorem rillmeterref15_Small.mono:∀a0 a1 a2 a3 a4 a5 a6 k,LeO (rillmeterref15_Small.f k a0 a1 a2 a3 a4 a5 a6) (rillmeterref15_Small.f (k+1) a0 a1 a2 a3 a4 a5 a6):=by
  intro a0 a1 a2 a3 a4 a5 a6 k
  obtain⟨ih0,ih1,ih2⟩:=rillmeterref15_Small.mono_l k
  unfold rillmeterref15_Small.f
  repeat' with_reducible first|exact ih0 .. |exact ih1 .. |exact ih2 .. |exact rillmeterref11_Small.mono .. |exact LeO.refl _|exact LeO.none _|refine LeO.ite ?_ ?_|refine LeO.bind ?_ (fun _=>?_)
theorem rillmeterref15_Small.calls (k:Nat)(a0_0 a0_1 a0_2:Int)(A0_3:Option Addr)(c0_3:Nat)(l0_3:List (S74))(a0_4 a0_5:Int)(A0_6:Option Addr)(c0_6:Nat)(l0_6:List (List Int))(r:Bool)(w:World)(hr0_3:Kd.C k74 w A0_3 l0_3.length l0_3)(hc0_3:l0_3.length≤c0_3)(hr0_6:Kd.C (Kd.slice 3 (Kd.int .i64)) w A0_6 l0_6.length l0_6)(hc0_6:l0_6.length≤c0_6)(h:rillmeterref15_Small.f k a0_0 a0_1 a0_2 l0_3 a0_4 a0_5 l0_6=some r):
    Calls Try.prog 9 #[.agg #[.int .u64 a0_0,.int .i64 a0_1,.int .i64 a0_2,.slice A0_3 l0_3.length c0_3,.int .u64 a0_4,.int .i64 a0_5,.slice A0_6 l0_6.length c0_6]] w fun e w'=>e=.returned (.bool r)∧Below w.heap.size w w':=by
 have hu32:=Try.underlying32;have hu77:=Try.underlying77;have bF:=mk_ hr0_3;have fJ:=mk_ hc0_3;clear hr0_3 hc0_3;have cT:=mk_ hr0_6;have cU:=mk_ hc0_6;clear hr0_6 hc0_6;have HB:=mk_ (Below.refl w.heap.size w);have H:=h;clear h;unfold rillmeterref15_Small.f at H;have HC2:=mk_ H;clear H
 go_enter Try.func9,Try.ntmps9
 go_upto_region 1 with(first|(refine gq_ 1 ?_;refine bx_ 1 #[.int .u64 a0_0,.int .i64 a0_1,.int .i64 a0_2,.slice A0_3 l0_3.length c0_3,.int .u64 a0_4,.int .i64 a0_5,.slice A0_6 l0_6.length c0_6] 32 ?_;intro aB hg w3 hbox hb;have aA:=mk_ (hbox);have fK:=gx_ hg HB;have fL:=gx_ hg HB;replace HB:=bs_ HB hb;clear hb hbox hg))
 (try simp only[Act.put,sa_,sb_,sc_])
 go_cut [16] (fun cV wc=>∃(kq:Nat)(aY:Bool),cV=.bool aY∧Aside0 (rillmeterref15_Small.j0 kq aY a0_0 a0_1 a0_2 l0_3 a0_4 a0_5 l0_6=some r)∧Aside0 (kq≤k)∧Aside0 (wc.heap[aB]? =some (.cells #[.int .u64 a0_0,.int .i64 a0_1,.int .i64 a0_2,(.slice A0_3 l0_3.length c0_3),.int .u64 a0_4,.int .i64 a0_5,(.slice A0_6 l0_6.length c0_6)] 32 (0,0)))∧Aside0 (Below w.heap.size w wc))
 case first=>
  have H:=HC2.out;clear HC2
  by_cases c4:(l0_3.length:Int)>300
  ·rw[if_pos c4]at H;have aG:decide (300<(l0_3.length:Int))=true:=decide_eq_true c4;have aZ:decide (300<l0_3.length)=true:=decide_eq_true (by omega);clear c4
   (first|rw[aG]|(simp only[i64_w,i32_w];rw[aG])|skip)
   have H':=mk_ H;clear H;have:=cz7_ aA;have:=fz7_ aA
   go_wp2
   go_meet
   case rel=>exact⟨_,(true),eq_,H',⟨by first|omega|exact Nat.le_refl _⟩,⟨bk_ aA⟩,⟨bl_ HB⟩⟩
  ·rw[if_neg c4]at H;have aG:decide (300<(l0_3.length:Int))=false:=decide_eq_false c4;have aZ:decide (300<l0_3.length)=false:=decide_eq_false (by omega);clear c4
   (first|rw[aG]|(simp only[i64_w,i32_w];rw[aG])|skip)
   replace H:=bi_ H;obtain⟨aU,A6,H⟩:=H;have H':=mk_ H;clear H;have:=cz7_ aA;have:=fz7_ aA
   go_wp2_with (first|(go_at_call 27;(with_reducible refine(rillmeterref11_Small.calls k _ _ l0_6 aU _ ?side1 ?side2 A6.out).mono ?_);(case side1=>exact ck_ (Kd.C_below cT.out HB.out));(case side2=>exact cU.out);rintro e w' ⟨rfl,⟨nd,rfl⟩⟩))
   go_meet
   case rel=>exact⟨_,(!aU),eq_,H',⟨by first|omega|exact Nat.le_refl _⟩,⟨bk_ aA⟩,⟨bl_ HB⟩⟩
 case rest=>
  clear HC2;obtain⟨kq,aY,rfl,HA,HJ1,aA,HB⟩:=hcut
  cases kq with
  |zero=>exact absurd HA.out (by simp[rillmeterref15_Small.j0])
  |succ cI=>
   have H:=HA.out;clear HA;simp only[rillmeterref15_Small.j0]at H
   by_cases c8:aY=true
   ·subst c8
    rw[if_pos rfl]at H;obtain rfl:=Option.some.inj H
    go_wp2
    go_ret;exact⟨er_,bl_ HB⟩
   ·replace c8:=Bool.eq_false_iff.mpr c8;subst c8
    rw[if_neg (show¬(false=true)by decide)]at H;have H':=mk_ H;clear H
    go_wp2
    go_loopg [3] cI (fun kq v3 w'=>∃(aC:Int),v3=.int .i64 aC∧Aside0 (rillmeterref15_Small.l0 kq aC a0_0 a0_1 a0_2 l0_3 a0_4 a0_5 l0_6=some r)∧Aside0 (kq≤cI)∧Aside0 (w'.heap[aB]? =some (.cells #[.int .u64 a0_0,.int .i64 a0_1,.int .i64 a0_2,(.slice A0_3 l0_3.length c0_3),.int .u64 a0_4,.int .i64 a0_5,(.slice A0_6 l0_6.length c0_6)] 32 (0,0)))∧Aside0 (Below w.heap.size w w'))
    case atStart=>exact⟨(0),eq_,H',⟨Nat.le_refl _⟩,⟨bk_ aA⟩,⟨bl_ HB⟩⟩
    case round=>
     clear H';(try clear c8);obtain⟨aC,rfl,HA,HK2,aA,HB⟩:=hrel
     cases gk with
     |zero=>exact absurd HA.out (by simp[rillmeterref15_Small.l0])
     |succ k2=>
      have H:=HA.out;clear HA;simp only[rillmeterref15_Small.l0]at H
      rcases ic_ H with⟨cO,h_⟩|⟨cO,h_⟩
      ·clear H;have H:=h_;clear h_;replace H:=it_ H;obtain⟨cW,H⟩:=H
       by_cases aK:(((rd_T74 l0_3 aC).f0).length:Int)>20
       ·rw[if_pos aK]at H;have cP:decide (20<(((rd_T74 l0_3 aC).f0).length:Int))=true:=decide_eq_true aK;have cQ:decide (20<((rd_T74 l0_3 aC).f0).length)=true:=decide_eq_true (by omega);clear aK;obtain rfl:=Option.some.inj H;have:=cz7_ aA;have:=fz7_ aA;have aH:0≤(aC:Int):=od_
        have aI:aC<(l0_3.length:Int):=od_;obtain⟨cJ,A118_0,c118_0,e118,aF,aJ,aW,hi118_0⟩:=at_T74 bF.out aC aH aI
        cases e118;(try replace aF:=bt_ HB aF);(try replace aJ:=bt_ HB aJ);have dL:=mk_ hi118_0;have dM:=mk_ aW;clear hi118_0 aW;replace aH:=eq_true aH;replace aI:=eq_true aI
        go_wp2
        go_ret;exact⟨er_,bl_ HB⟩
       ·rw[if_neg aK]at H;have cP:decide (20<(((rd_T74 l0_3 aC).f0).length:Int))=false:=decide_eq_false aK;have cQ:decide (20<((rd_T74 l0_3 aC).f0).length)=false:=decide_eq_false (by omega);clear aK;have H':=mk_ H;clear H;have:=cz7_ aA;have:=fz7_ aA;have aH:0≤(aC:Int):=od_
        have aI:aC<(l0_3.length:Int):=od_;obtain⟨cJ,A118_0,c118_0,e118,aF,aJ,aW,hi118_0⟩:=at_T74 bF.out aC aH aI
        cases e118;(try replace aF:=bt_ HB aF);(try replace aJ:=bt_ HB aJ);have dL:=mk_ hi118_0;have dM:=mk_ aW;clear hi118_0 aW;replace aH:=eq_true aH;replace aI:=eq_true aI;obtain⟨bA,bB,fB,A119_0,c119_0,e119,aX,bC,cR,hi119_0⟩:=aq_ (at_T74 bF.out aC);obtain rfl:cJ=fB:=(by injection e119);(try replace aX:=bt_ HB aX);(try replace bC:=bt_ HB bC);have cS:=mk_ hi119_0;have fM:=mk_ cR;clear hi119_0 cR;have ea_:=Option.some.inj (aF.symm.trans aX)
        injection ea_ with ea_ en_ ec_
        subst ea_;subst ec_;clear en_
        go_wp2
        go_loopg [39] k2 (fun kq fC w'=>∃(aD:Int),fC=.int .i64 aD∧Aside0 (rillmeterref15_Small.l1 kq aC ((rd_T74 l0_3 aC).f0) (((rd_T74 l0_3 aC).f0).length:Int) aD a0_0 a0_1 a0_2 l0_3 a0_4 a0_5 l0_6=some r)∧Aside0 (kq≤k2)∧Aside0 (w'.heap[aB]? =some (.cells #[.int .u64 a0_0,.int .i64 a0_1,.int .i64 a0_2,(.slice (some cJ) l0_3.length c0_3),.int .u64 a0_4,.int .i64 a0_5,(.slice A0_6 l0_6.length c0_6)] 32 (0,0)))∧Aside0 (Below w.heap.size w w'))
        case atStart=>exact⟨(0),eq_,H',⟨Nat.le_refl _⟩,⟨bk_ aA⟩,⟨bl_ HB⟩⟩
        case round=>
         clear H';(try clear c8);(try clear cO);(try clear cW);(try clear aK);(try clear cP);(try clear cQ)
         (try clear aF);(try clear aJ);(try clear aX);(try clear bC);(try clear aH);(try clear bA);(try clear aI);(try clear bB);obtain⟨aD,rfl,HA,HK3,aA,HB⟩:=hrel
         cases gk with
         |zero=>exact absurd HA.out (by simp[rillmeterref15_Small.l1])
         |succ k3=>
          have H:=HA.out;clear HA;simp only[rillmeterref15_Small.l1]at H
          rcases ic_ H with⟨fD,h_⟩|⟨fD,h_⟩
          ·clear H;have H:=h_;clear h_;replace H:=it_ H;obtain⟨fP,H⟩:=H;replace H:=it_ H;obtain⟨fQ,H⟩:=H
           by_cases aS:(((rd_T77 ((rd_T74 l0_3 aC).f0) aD).f0).size:Int)>100
           ·rw[if_pos aS]at H;have fE:decide (100<(((rd_T77 ((rd_T74 l0_3 aC).f0) aD).f0).size:Int))=true:=decide_eq_true aS;have fF:decide (100<((rd_T77 ((rd_T74 l0_3 aC).f0) aD).f0).size)=true:=decide_eq_true (by omega);clear aS;obtain rfl:=Option.some.inj H;obtain⟨aL,aM,fG,e120,aN,aO,aP⟩:=aq_ (at_T77 cS.out aD)
            cases e120;(try replace aN:=bt_ HB aN);(try replace aO:=bt_ HB aO);(try replace aP:=bt_ HB aP)
            go_wp2_with (first|(refine gq_ 5 ?_;refine bx_ 5 #[.string (⟨#[]⟩:ByteArray),.int .i64 0,.bool false] 77 ?_;intro aQ hg cK hbox hb;have aE:=mk_ (hbox);have fH:=gx_ hg HB;have fI:=gx_ hg HB;have aT:=nx_ hg aA;have:=aT.out;have cL:=ny_ hg aA;have:=cL.out;replace aA:=bb_ aA hb;replace HB:=bs_ HB hb;clear hb hbox hg;have:=cz3_ aE;have:=fz3_ aE))
            go_ret;exact⟨er_,bl_ HB⟩
           ·rw[if_neg aS]at H;have fE:decide (100<(((rd_T77 ((rd_T74 l0_3 aC).f0) aD).f0).size:Int))=false:=decide_eq_false aS;have fF:decide (100<((rd_T77 ((rd_T74 l0_3 aC).f0) aD).f0).size)=false:=decide_eq_false (by omega);clear aS;have H':=mk_ H;clear H;obtain⟨aL,aM,fG,e120,aN,aO,aP⟩:=aq_ (at_T77 cS.out aD)
            cases e120;(try replace aN:=bt_ HB aN);(try replace aO:=bt_ HB aO);(try replace aP:=bt_ HB aP)
            go_wp2_with (first|(refine gq_ 5 ?_;refine bx_ 5 #[.string (⟨#[]⟩:ByteArray),.int .i64 0,.bool false] 77 ?_;intro aQ hg cM hbox hb;have aE:=mk_ (hbox);have fH:=gx_ hg HB;have fI:=gx_ hg HB;have aT:=nx_ hg aA;have:=aT.out;have cL:=ny_ hg aA;have:=cL.out;replace aA:=bb_ aA hb;replace HB:=bs_ HB hb;clear hb hbox hg;have:=cz3_ aE;have:=fz3_ aE))
            go_roundg k3
            case measure=>have:=HJ1.out;have:=HK2.out;have:=HK3.out;omega
            case rel=>exact⟨(wrap64 (aD+1)),eq_,H',⟨by have:=HJ1.out;have:=HK2.out;have:=HK3.out;omega⟩,⟨fb_⟩,⟨bl_ HB⟩⟩
          ·clear H;have H:=h_;clear h_;have H':=mk_ H;clear H
           go_wp2
           go_roundg k3
           case measure=>have:=HJ1.out;have:=HK2.out;have:=HK3.out;omega
           case rel=>exact⟨(wrap64 (aC+1)),eq_,H',⟨by have:=HJ1.out;have:=HK2.out;have:=HK3.out;omega⟩,⟨bk_ aA⟩,⟨bl_ HB⟩⟩
      ·clear H;have H:=h_;clear h_;obtain rfl:=Option.some.inj H;have:=cz7_ aA;have:=fz7_ aA
       go_wp2
       go_ret;exact⟨er_,bl_ HB⟩
def slices_Min_int_int.l0:Nat→List Int→Int→Int→Option (Int)
  |0,_,_,_=>none
  |k+1,a,b,c=>if c<(a.length:Int)then(if 0≤c then(slices_Min_int_int.l0 k a (mn b (rd a c)) (wrap64 (c+1)))else(none))else(some b)
def slices_Min_int_int.f (k:Nat)(l0:List Int):Option (Int):=if 0<(l0.length:Int)then(slices_Min_int_int.l0 k l0 (rd l0 0) 1)else(none)
theorem slices_Min_int_int.mono_l:∀k,(∀y0 y1 y2,LeO (slices_Min_int_int.l0 k y0 y1 y2) (slices_Min_int_int.l0 (k+1) y0 y1 y2))
  |0=>fun _ _ _ r h=>by simp[slices_Min_int_int.l0]at h
  |k+1=>by
    have ih0:=slices_Min_int_int.mono_l k
    · intro y0 y1 y2
      unfold slices_Min_int_int.l0
      repeat' with_reducible first|exact ih0 .. |exact LeO.refl _|exact LeO.none _|refine LeO.ite ?_ ?_|refine LeO.bind ?_ (fun _=>?_)
theorem slices_Min_int_int.mono:∀a0 k,LeO (slices_Min_int_int.f k a0) (slices_Min_int_int.f (k+1) a0):=by
  intro a0 k
  have ih0:=slices_Min_int_int.mono_l k
  unfold slices_Min_int_int.f
  repeat' with_reducible first|exact ih0 .. |exact LeO.refl _|exact LeO.none _|refine LeO.ite ?_ ?_|refine LeO.bind ?_ (fun _=>?_)
theorem slices_Min_int_int.calls (k:Nat)(A0:Option Addr)(c0:Nat)(l0:List Int)(r:Int)(w:World)(hr0:Kd.C (Kd.int .i64) w A0 l0.length l0)(hc0:l0.length≤c0)(h:slices_Min_int_int.f k l0=some r):
    Calls Try.prog 65 #[.slice A0 l0.length c0] w fun e w'=>e=.returned (.int .i64 r)∧Below w.heap.size w w':=by
 have HR0:=mk_ hr0;have HC0:=mk_ hc0;clear hr0 hc0;have HB:=mk_ (Below.refl w.heap.size w);have H:=h;clear h;unfold slices_Min_int_int.f at H
 replace H:=ip_ H;obtain⟨c2,H⟩:=H;have aI:=decide_eq_true c2;have aJ:decide (0<l0.length)=true:=decide_eq_true (by omega);have aN:decide ((l0.length:Int)<1)=false:=decide_eq_false (by omega);have aO:decide (l0.length<1)=false:=decide_eq_false (by omega)
 have aP:¬(l0=[]):=fun h_=>by rw[h_]at c2;exact absurd c2 (by decide)
 clear c2;have H':=mk_ H;clear H;have aC:0≤(0:Int):=(by omega);have aD:0<(l0.length:Int):=od_;obtain⟨aK,e122,aE⟩:=Kd.at_int HR0.out 0 aC aD
 cases e122;have qi122:(0<l0.length)=True:=eq_true (by omega);(try rw[show((0:Int)).toNat=0 from rfl]at aE);(try rw[Addr.add_zero']at aE);replace aC:=eq_true aC;replace aD:=eq_true aD
 go_enter Try.func65,Try.ntmps65
 go_wp2
 go_loopg [3,4] k (fun kq v3 v4 w'=>∃(aB aA:Int),v3=.int .i64 aB∧v4=.int .i64 aA∧Aside0 (slices_Min_int_int.l0 kq l0 aB aA=some r)∧Aside0 (kq≤k)∧Aside0 (Below w.heap.size w w'))
 case atStart=>exact⟨(rd l0 0),(1),eq_,eq_,H',⟨Nat.le_refl _⟩,⟨bl_ HB⟩⟩
 case round=>
  clear H';(try clear c2);(try clear aI);(try clear aJ);(try clear aE);(try clear aC);(try clear aD);obtain⟨aB,aA,rfl,rfl,HA,HK1,HB⟩:=hrel
  cases gk with
  |zero=>exact absurd HA.out (by simp[slices_Min_int_int.l0])
  |succ k1=>
   have H:=HA.out;clear HA;simp only[slices_Min_int_int.l0]at H
   rcases ic_ H with⟨aL,h_⟩|⟨aL,h_⟩
   ·clear H;have H:=h_;clear h_;replace H:=it_ H;obtain⟨aQ,H⟩:=H;obtain⟨ji5,hji5⟩:∃j_:Int,(mn aB (rd l0 aA))=j_:=⟨_,rfl⟩
    (first|rw[hji5]at H|simp only[hji5]at H)
    have hji5_:(if(rd l0 aA)<aB then(rd l0 aA)else aB)=ji5:=hji5;have H':=mk_ H;clear H;obtain⟨aF,aG,aM,e123,aH⟩:=aq_ (Kd.at_int HR0.out aA);obtain rfl:aK=aM:=(by injection e123);(try replace aH:=bt_ HB aH)
    go_wp2
    go_roundg k1
    case measure=>have:=HK1.out;omega
    case rel=>exact⟨(ji5),(wrap64 (aA+1)),(by first|rfl|(simp;done)|(simp only[←hji5]<;>(first|rfl|simp))|(simp[*];done)),eq_,H',⟨by have:=HK1.out;omega⟩,⟨bl_ HB⟩⟩
   ·clear H;have H:=h_;clear h_;obtain rfl:=Option.some.inj H
    go_wp2
    go_ret;exact⟨er_,bl_ HB⟩
def slices_Max_int_int.l0:Nat→List Int→Int→Int→Option (Int)
  |0,_,_,_=>none
  |k+1,a,b,c=>if c<(a.length:Int)then(if 0≤c then(slices_Max_int_int.l0 k a (mx b (rd a c)) (wrap64 (c+1)))else(none))else(some b)
def slices_Max_int_int.f (k:Nat)(l0:List Int):Option (Int):=if 0<(l0.length:Int)then(slices_Max_int_int.l0 k l0 (rd l0 0) 1)else(none)
theorem slices_Max_int_int.mono_l:∀k,(∀y0 y1 y2,LeO (slices_Max_int_int.l0 k y0 y1 y2) (slices_Max_int_int.l0 (k+1) y0 y1 y2))
  |0=>fun _ _ _ r h=>by simp[slices_Max_int_int.l0]at h
  |k+1=>by
    have ih0:=slices_Max_int_int.mono_l k
    · intro y0 y1 y2
      unfold slices_Max_int_int.l0
      repeat' with_reducible first|exact ih0 .. |exact LeO.refl _|exact LeO.none _|refine LeO.ite ?_ ?_|refine LeO.bind ?_ (fun _=>?_)
theorem slices_Max_int_int.mono:∀a0 k,LeO (slices_Max_int_int.f k a0) (slices_Max_int_int.f (k+1) a0):=by
  intro a0 k
  have ih0:=slices_Max_int_int.mono_l k
  unfold slices_Max_int_int.f
  repeat' with_reducible first|exact ih0 .. |exact LeO.refl _|exact LeO.none _|refine LeO.ite ?_ ?_|refine LeO.bind ?_ (fun _=>?_)
theorem slices_Max_int_int.calls (k:Nat)(A0:Option Addr)(c0:Nat)(l0:List Int)(r:Int)(w:World)(hr0:Kd.C (Kd.int .i64) w A0 l0.length l0)(hc0:l0.length≤c0)(h:slices_Max_int_int.f k l0=some r):
    Calls Try.prog 66 #[.slice A0 l0.length c0] w fun e w'=>e=.returned (.int .i64 r)∧Below w.heap.size w w':=by
 have HR0:=mk_ hr0;have HC0:=mk_ hc0;clear hr0 hc0;have HB:=mk_ (Below.refl w.heap.size w);have H:=h;clear h;unfold slices_Max_int_int.f at H
 replace H:=ip_ H;obtain⟨c2,H⟩:=H;have aI:=decide_eq_true c2;have aJ:decide (0<l0.length)=true:=decide_eq_true (by omega);have aN:decide ((l0.length:Int)<1)=false:=decide_eq_false (by omega);have aO:decide (l0.length<1)=false:=decide_eq_false (by omega)
 have aP:¬(l0=[]):=fun h_=>by rw[h_]at c2;exact absurd c2 (by decide)
 clear c2;have H':=mk_ H;clear H;have aC:0≤(0:Int):=(by omega);have aD:0<(l0.length:Int):=od_;obtain⟨aK,e124,aE⟩:=Kd.at_int HR0.out 0 aC aD
 cases e124;have qi124:(0<l0.length)=True:=eq_true (by omega);(try rw[show((0:Int)).toNat=0 from rfl]at aE);(try rw[Addr.add_zero']at aE);replace aC:=eq_true aC;replace aD:=eq_true aD
 go_enter Try.func66,Try.ntmps66
 go_wp2
 go_loopg [3,4] k (fun kq v3 v4 w'=>∃(aB aA:Int),v3=.int .i64 aB∧v4=.int .i64 aA∧Aside0 (slices_Max_int_int.l0 kq l0 aB aA=some r)∧Aside0 (kq≤k)∧Aside0 (Below w.heap.size w w'))
 case atStart=>exact⟨(rd l0 0),(1),eq_,eq_,H',⟨Nat.le_refl _⟩,⟨bl_ HB⟩⟩
 case round=>
  clear H';(try clear c2);(try clear aI);(try clear aJ);(try clear aE);(try clear aC);(try clear aD);obtain⟨aB,aA,rfl,rfl,HA,HK1,HB⟩:=hrel
  cases gk with
  |zero=>exact absurd HA.out (by simp[slices_Max_int_int.l0])
  |succ k1=>
   have H:=HA.out;clear HA;simp only[slices_Max_int_int.l0]at H
   rcases ic_ H with⟨aL,h_⟩|⟨aL,h_⟩
   ·clear H;have H:=h_;clear h_;replace H:=it_ H;obtain⟨aQ,H⟩:=H;obtain⟨ji5,hji5⟩:∃j_:Int,(mx aB (rd l0 aA))=j_:=⟨_,rfl⟩
    (first|rw[hji5]at H|simp only[hji5]at H)
    have hji5_:(if aB<(rd l0 aA)then(rd l0 aA)else aB)=ji5:=hji5;have H':=mk_ H;clear H;obtain⟨aF,aG,aM,e125,aH⟩:=aq_ (Kd.at_int HR0.out aA);obtain rfl:aK=aM:=(by injection e125);(try replace aH:=bt_ HB aH)
    go_wp2
    go_roundg k1
    case measure=>have:=HK1.out;omega
    case rel=>exact⟨(ji5),(wrap64 (aA+1)),(by first|rfl|(simp;done)|(simp only[←hji5]<;>(first|rfl|simp))|(simp[*];done)),eq_,H',⟨by have:=HK1.out;omega⟩,⟨bl_ HB⟩⟩
   ·clear H;have H:=h_;clear h_;obtain rfl:=Option.some.inj H
    go_wp2
    go_ret;exact⟨er_,bl_ HB⟩
mutual
def least_Right.j0:Nat→Bool→Int→Int→List (List Int)→Option (Bool)
  |0,_,_,_,_=>none
  |k+1,a,b,c,d=>if a=true then(some false)else(least_Right.l0 k d (d.length:Int) 0 b c d)
def least_Right.l0:Nat→List (List Int)→Int→Int→Int→Int→List (List Int)→Option (Bool)
  |0,_,_,_,_,_,_=>none
  |k+1,a,b,c,d,e,g=>if c<b then(if 0≤c then(if c<(a.length:Int)then(if((rd_L9 a c).length:Int)<1 then(some false)else(if((rd_L9 a c).length:Int)>256 then(some false)else(if 0<(g.length:Int)then(if((rd_L9 a c).length:Int)=((rd_L9 g 0).length:Int)then((slices_Min_int_int.f k (rd_L9 a c)).bind fun t129=>(if t129<0 then(some false)else((slices_Max_int_int.f k (rd_L9 a c)).bind fun t130=>(if t130>e then(some false)else(least_Right.l0 k a b (wrap64 (c+1)) d e g)))))else(some false))else(none))))else(none))else(none))else(some true)
end
def least_Right.f (k:Nat)(a0_0 a0_1:Int)(l0_2:List (List Int)):Option (Bool):=if a0_1<1 then(least_Right.j0 k true a0_0 a0_1 l0_2)else(if a0_1>1099511627776 then(least_Right.j0 k true a0_0 a0_1 l0_2)else(if(l0_2.length:Int)<1 then(least_Right.j0 k true a0_0 a0_1 l0_2)else(least_Right.j0 k (decide ((l0_2.length:Int)>7)) a0_0 a0_1 l0_2)))
theorem least_Right.mono_l:∀k,(∀y0 y1 y2 y3,LeO (least_Right.j0 k y0 y1 y2 y3) (least_Right.j0 (k+1) y0 y1 y2 y3))∧(∀y0 y1 y2 y3 y4 y5,LeO (least_Right.l0 k y0 y1 y2 y3 y4 y5) (least_Right.l0 (k+1) y0 y1 y2 y3 y4 y5))
  |0=>⟨fun _ _ _ _ r h=>by simp[least_Right.j0]at h,fun _ _ _ _ _ _ r h=>by simp[least_Right.l0]at h⟩
  |k+1=>by
    obtain⟨ih0,ih1⟩:=least_Right.mono_l k
    refine⟨?_,?_⟩<;>intros
    all_goals first|unfold least_Right.j0|unfold least_Right.l0
    all_goals repeat' with_reducible first|exact ih0 .. |exact ih1 .. |exact slices_Max_int_int.mono .. |exact slices_Min_int_int.mono .. |exact LeO.refl _|exact LeO.none _|refine LeO.ite ?_ ?_|refine LeO.bind ?_ (fun _=>?_)
theorem least_Right.mono:∀a0 a1 a2 k,LeO (least_Right.f k a0 a1 a2) (least_Right.f (k+1) a0 a1 a2):=by
  intro a0 a1 a2 k
  obtain⟨ih0,ih1⟩:=least_Right.mono_l k
  unfold least_Right.f
  repeat' with_reducible first|exact ih0 .. |exact ih1 .. |exact slices_Max_int_int.mono .. |exact slices_Min_int_int.mono .. |exact LeO.refl _|exact LeO.none _|refine LeO.ite ?_ ?_|refine LeO.bind ?_ (fun _=>?_)
def least_Right.T6:Bool × List (List Nat × List Nat):=(true,[([],[]),([0],[0]),([1],[1]),([2],[2]),([3],[3]),([4,3],[3,4]),([5,3],[3,5]),([3,6],[3,6]),([7,3],[7]),([8],[8]),([9,8],[8,9]),([8],[8]),([11,8],[8,11]),([12,8],[8,12]),([13,8],[8,13]),([14,8],[8,14]),([10,15,8],[8,10,15]),([8,16],[8,16]),([17,8],[17]),([18],[18]),([19,18,18],[18,19]),([20,18],[18,20]),([18,21],[18,21]),([22,20],[22]),([23],[23]),([24,23,23],[23,24]),([23],[23]),([26,23],[23,26]),([25,27,23],[23,25,27]),([23,28],[23,28])])
def least_Right.B6:List Nat:=[0,1,3,7,15,31,63,127,255,511,1023,511,2559,6655,14847,31231,65535,131071,262143,524287,1048575,2097151,4194303,8388607,16777215,33554431,16777215,83886079,268435455,536870911]
theorem least_Right.tab6:rtab .any (opsOf Try.f42 6)=least_Right.T6:=by kernel_rfl
theorem least_Right.bits6:waitsOk least_Right.T6.2 least_Right.B6=true:=by kernel_rfl
theorem least_Right.calls (k:Nat)(a0_0 a0_1:Int)(A0_2:Option Addr)(c0_2:Nat)(l0_2:List (List Int))(r:Bool)(w:World)(hr0_2:Kd.C (Kd.slice 3 (Kd.int .i64)) w A0_2 l0_2.length l0_2)(hc0_2:l0_2.length≤c0_2)(h:least_Right.f k a0_0 a0_1 l0_2=some r):
    Calls Try.prog 42 #[.agg #[.int .u64 a0_0,.int .i64 a0_1,.slice A0_2 l0_2.length c0_2]] w fun e w'=>e=.returned (.bool r)∧Below w.heap.size w w':=by
 have hu26:=Try.underlying26;have aO:=mk_ hr0_2;have dF:=mk_ hc0_2;clear hr0_2 hc0_2;have HB:=mk_ (Below.refl w.heap.size w);have H:=h;clear h;unfold least_Right.f at H;have HC2:=mk_ H;clear H
 go_enter Try.func42,Try.ntmps42
 go_upto_region 1 with(first|(refine gq_ 1 ?_;(try(refine gate_guard (by rfl) ?_;dsimp only));refine bx_ 1 #[.int .u64 a0_0,.int .i64 a0_1,.slice A0_2 l0_2.length c0_2] 26 ?_;intro aE hg w3 hbox hb;have aA:=mk_ (hbox);have dG:=gx_ hg HB;have dH:=gx_ hg HB;replace HB:=bs_ HB hb;clear hb hbox hg))
 (try simp only[Act.put,sa_,sb_,sc_])
 go_cut [24] (fun cN wc=>∃(kq:Nat)(bC:Bool),cN=.bool bC∧Aside0 (least_Right.j0 kq bC a0_0 a0_1 l0_2=some r)∧Aside0 (kq≤k)∧Aside0 (wc.heap[aE]? =some (.cells #[.int .u64 a0_0,.int .i64 a0_1,(.slice A0_2 l0_2.length c0_2)] 26 (0,0)))∧Aside0 (Below w.heap.size w wc))
 case first=>
  have H:=HC2.out;clear HC2
  rcases ic_ H with⟨aS,h_⟩|⟨aS,h_⟩
  ·clear H;have H:=h_;clear h_
   (first|rw[aS]|(simp only[i64_w,i32_w];rw[aS])|skip)
   have H':=mk_ H;clear H;have:=cz3_ aA;have:=fz3_ aA
   go_wp2
   go_meet
   case rel=>exact⟨_,(true),eq_,H',⟨by first|omega|exact Nat.le_refl _⟩,⟨bk_ aA⟩,⟨bl_ HB⟩⟩
  ·clear H;have H:=h_;clear h_
   (first|rw[aS]|(simp only[i64_w,i32_w];rw[aS])|skip)
   by_cases c6:a0_1>1099511627776
   ·rw[if_pos c6]at H;have bG:decide (1099511627776<a0_1)=true:=decide_eq_true c6;clear c6;have H':=mk_ H;clear H;have:=cz3_ aA;have:=fz3_ aA
    go_wp2
    go_meet
    case rel=>exact⟨_,(true),eq_,H',⟨by first|omega|exact Nat.le_refl _⟩,⟨bk_ aA⟩,⟨bl_ HB⟩⟩
   ·rw[if_neg c6]at H;have bG:decide (1099511627776<a0_1)=false:=decide_eq_false c6;clear c6
    by_cases c8:(l0_2.length:Int)<1
    ·rw[if_pos c8]at H;have bH:=decide_eq_true c8;have bI:decide (l0_2.length<1)=true:=decide_eq_true (by omega);clear c8;have H':=mk_ H;clear H;have:=cz3_ aA;have:=fz3_ aA
     go_wp2
     go_meet
     case rel=>exact⟨_,(true),eq_,H',⟨by first|omega|exact Nat.le_refl _⟩,⟨bk_ aA⟩,⟨bl_ HB⟩⟩
    ·rw[if_neg c8]at H;have bH:=decide_eq_false c8;have bI:decide (l0_2.length<1)=false:=decide_eq_false (by omega);clear c8;have H':=mk_ H;clear H;have:=cz3_ aA;have:=fz3_ aA
     go_wp2
     go_meet
     case rel=>exact⟨_,(decide ((l0_2.length:Int)>7)),eq_,H',⟨by first|omega|exact Nat.le_refl _⟩,⟨bk_ aA⟩,⟨bl_ HB⟩⟩
 case rest=>
  clear HC2;obtain⟨kq,bC,rfl,HA,HJ1,aA,HB⟩:=hcut
  cases kq with
  |zero=>exact absurd HA.out (by simp[least_Right.j0])
  |succ bJ=>
   have H:=HA.out;clear HA;simp only[least_Right.j0]at H
   by_cases bB:bC=true
   ·subst bB
    rw[if_pos rfl]at H;obtain rfl:=Option.some.inj H
    go_wp2
    go_ret;exact⟨er_,bl_ HB⟩
   ·replace bB:=Bool.eq_false_iff.mpr bB;subst bB
    rw[if_neg (show¬(false=true)by decide)]at H;have H':=mk_ H;clear H;have:=cz3_ aA;have:=fz3_ aA
    go_wp2
    go_loopg [28] bJ (fun kq cU w'=>∃(aB:Int),cU=.int .i64 aB∧Aside0 (least_Right.l0 kq l0_2 (l0_2.length:Int) aB a0_0 a0_1 l0_2=some r)∧Aside0 (kq≤bJ)∧Aside0 (w'.heap[aE]? =some (.cells #[.int .u64 a0_0,.int .i64 a0_1,(.slice A0_2 l0_2.length c0_2)] 26 (0,0)))∧Aside0 (Below w.heap.size w w'))
    case atStart=>exact⟨(0),eq_,H',⟨Nat.le_refl _⟩,⟨bk_ aA⟩,⟨bl_ HB⟩⟩
    case round=>
     clear H';(try clear bB);obtain⟨aB,rfl,HA,HK2,aA,HB⟩:=hrel
     cases gk with
     |zero=>exact absurd HA.out (by simp[least_Right.l0])
     |succ k2=>
      have H:=HA.out;clear HA;simp only[least_Right.l0]at H
      rcases ic_ H with⟨cV,h_⟩|⟨cV,h_⟩
      ·clear H;have H:=h_;clear h_;replace H:=it_ H;obtain⟨dI,H⟩:=H;replace H:=it_ H;obtain⟨dJ,H⟩:=H
       by_cases aX:((rd_L9 l0_2 aB).length:Int)<1
       ·rw[if_pos aX]at H;have cW:=decide_eq_true aX;have cX:decide ((rd_L9 l0_2 aB).length<1)=true:=decide_eq_true (by omega);clear aX;obtain rfl:=Option.some.inj H;obtain⟨aF,aG,aI,A127_0,c127_0,e127,aH,aJ,hi127_0⟩:=aq_ (at_L9 aO.out aB)
        cases e127;(try replace aH:=bt_ HB aH);have aP:=mk_ hi127_0;have aQ:=mk_ aJ;clear hi127_0 aJ
        try go_wp2
        replace aA:=bd_ aA;replace HB:=bw_ HB;refine start_ (n:=30) (S:=fun w'=>True) (ds:=[]) (mB 30 0) (by kernel_rfl) rfl rfl trivial (fun hHeld=>?_);refine with_tabW least_Right.tab6 least_Right.bits6 (fun HT_ HW_=>?_);generalize wr.drew=dK at aA HB hHeld ⊢;refine p1_ 0 1 ?_;refine p1_ 1 3 ?_;refine p1_ 2 7 ?_;refine p1_ 3 15 ?_;refine uq_ [(4,36),(5,37),(6,38)] 23 30 127 HT_ ?_;refine p1_ 7 255 ?_;refine p1_ 8 511 ?_;refine uq_ [(9,41),(10,42),(11,43),(12,44),(13,45),(14,46),(15,47),(16,48)] 13 30 131071 HT_ ?_;refine p1_ 17 262143 ?_;refine p1_ 18 524287 ?_;refine uq_ [(19,51),(20,52),(21,53)] 8 30 4194303 HT_ ?_;refine p1_ 22 8388607 ?_;refine p1_ 23 16777215 ?_;refine uq_ [(24,56),(25,57),(26,58),(27,59),(28,60)] 1 30 536870911 HT_ ?_;refine p1_ 29 1073741823 ?_;refine dq_ HT_ ?_
        try go_wp2
        go_ret;exact⟨er_,bl_ HB⟩
       ·rw[if_neg aX]at H;have cW:=decide_eq_false aX;have cX:decide ((rd_L9 l0_2 aB).length<1)=false:=decide_eq_false (by omega);clear aX
        by_cases aY:((rd_L9 l0_2 aB).length:Int)>256
        ·rw[if_pos aY]at H;have cY:decide (256<((rd_L9 l0_2 aB).length:Int))=true:=decide_eq_true aY;have cZ:decide (256<(rd_L9 l0_2 aB).length)=true:=decide_eq_true (by omega);clear aY;obtain rfl:=Option.some.inj H;obtain⟨aF,aG,aI,A127_0,c127_0,e127,aH,aJ,hi127_0⟩:=aq_ (at_L9 aO.out aB)
         cases e127;(try replace aH:=bt_ HB aH);have aP:=mk_ hi127_0;have aQ:=mk_ aJ;clear hi127_0 aJ
         try go_wp2
         replace aA:=bd_ aA;replace HB:=bw_ HB;refine start_ (n:=30) (S:=fun w'=>True) (ds:=[]) (mB 30 0) (by kernel_rfl) rfl rfl trivial (fun hHeld=>?_);refine with_tabW least_Right.tab6 least_Right.bits6 (fun HT_ HW_=>?_);generalize wr.drew=dL at aA HB hHeld ⊢;refine p1_ 0 1 ?_;refine p1_ 1 3 ?_;refine p1_ 2 7 ?_;refine p1_ 3 15 ?_;refine p1_ 4 31 ?_;refine p1_ 5 63 ?_;refine p1_ 6 127 ?_;refine p1_ 7 255 ?_;refine p1_ 8 511 ?_;refine uq_ [(9,41),(10,42),(11,43),(12,44),(13,45),(14,46),(15,47),(16,48)] 13 30 131071 HT_ ?_;refine p1_ 17 262143 ?_;refine p1_ 18 524287 ?_;refine uq_ [(19,51),(20,52),(21,53)] 8 30 4194303 HT_ ?_;refine p1_ 22 8388607 ?_;refine p1_ 23 16777215 ?_;refine uq_ [(24,56),(25,57),(26,58),(27,59),(28,60)] 1 30 536870911 HT_ ?_;refine p1_ 29 1073741823 ?_;refine dq_ HT_ ?_
         try go_wp2
         go_ret;exact⟨er_,bl_ HB⟩
        ·rw[if_neg aY]at H;have cY:decide (256<((rd_L9 l0_2 aB).length:Int))=false:=decide_eq_false aY;have cZ:decide (256<(rd_L9 l0_2 aB).length)=false:=decide_eq_false (by omega);clear aY;replace H:=ip_ H;obtain⟨bF,H⟩:=H;have dM:=decide_eq_true bF;have dN:decide (0<l0_2.length)=true:=decide_eq_true (by omega);clear bF
         by_cases aM:((rd_L9 l0_2 aB).length:Int)=((rd_L9 l0_2 0).length:Int)
         ·rw[if_pos aM]at H;have dA:=beq_iff_eq.mpr aM;have dB:=bne_eq_false_iff_eq.mpr aM
          have dC:((rd_L9 l0_2 aB).length==(rd_L9 l0_2 0).length)=true:=by first|simpa using aM|(simp at aM ⊢;omega)
          clear aM;replace H:=bi_ H;obtain⟨aT,bK,H⟩:=H
          rcases ic_ H with⟨dD,h_⟩|⟨dD,h_⟩
          ·clear H;have H:=h_;clear h_;obtain rfl:=Option.some.inj H;obtain⟨aF,aG,aI,A127_0,c127_0,e127,aH,aJ,hi127_0⟩:=aq_ (at_L9 aO.out aB)
           cases e127;(try replace aH:=bt_ HB aH);have aP:=mk_ hi127_0;have aQ:=mk_ aJ;clear hi127_0 aJ
           try go_wp2
           replace aA:=bd_ aA;replace HB:=bw_ HB;have aK:0≤(0:Int):=(by omega);have aL:0<(l0_2.length:Int):=od_;obtain⟨aU,A128_0,c128_0,e128,aD,aN,hi128_0⟩:=at_L9 aO.out 0 aK aL;have aC:=aD;(try rw[show((0:Int)).toNat=0 from rfl]at aC);(try rw[show 0*1=0 from rfl]at aC);(try rw[Addr.add_zero']at aC);obtain rfl:aI=aU:=(by injection e128);have qi128:(0<l0_2.length)=True:=eq_true (by omega);(try rw[show((0:Int)).toNat=0 from rfl]at aD);(try rw[Addr.add_zero']at aD);(try replace aD:=bt_ HB aD);have aV:=mk_ hi128_0;have bL:=mk_ aN;clear hi128_0 aN;replace aK:=eq_true aK;replace aL:=eq_true aL
           generalize hD_:wr.drew=dO at aA HB aV aD;refine sx_ (n:=30) (ds:=[]) hD_ (cw3_ aA (bt_ HB aC)) (fun hHeld=>?_);refine with_tabW least_Right.tab6 least_Right.bits6 (fun HT_ HW_=>?_);clear hD_;refine p1_ 0 1 ?_;refine p1_ 1 3 ?_;refine p1_ 2 7 ?_;refine p1_ 3 15 ?_;refine p1_ 4 31 ?_;refine p1_ 5 63 ?_;refine p1_ 6 127 ?_;refine p1_ 7 255 ?_;refine p1_ 8 511 ?_;refine p1_ 9 1023 ?_;refine p1_ 10 2047 ?_;refine p1_ 11 4095 ?_;refine t1_ 12 8191 ?_;refine p1_ 13 16383 ?_;refine t1_ 14 32767 ?_;refine p1_ 15 65535 ?_;refine p1_ 16 131071 ?_;refine p1_ 17 262143 ?_;refine p1_ 18 524287 ?_;refine p1_ 19 1048575 ?_;refine oq_ 20 (some 52) 30 2097151 HT_ (fun K hK=>?_);refine gt_ Try.func65 (slices_Min_int_int.calls k2 _ _ (rd_L9 l0_2 aB) aT _ ?side1 ?side2 bK.out) ?_
           (case side1=>exact ck_ (Kd.C_below aP.out HB.out));(case side2=>exact aQ.out);intro dP hb;replace aA:=bb_ aA hb;replace HB:=bs_ HB hb;(try clear hb);refine hK.out _ _ hl_ (fun hHeld=>?_);clear hK K;refine nm_ 52 ?_;refine p1_ 21 4194303 ?_;refine p1_ 22 8388607 ?_;refine p1_ 23 16777215 ?_;refine uq_ [(24,56),(25,57),(26,58),(27,59),(28,60)] 1 30 536870911 HT_ ?_;refine p1_ 29 1073741823 ?_;refine dq_ HT_ ?_
           try go_wp2
           go_ret;exact⟨er_,bl_ HB⟩
          ·clear H;have H:=h_;clear h_;replace H:=bi_ H;obtain⟨aR,cM,H⟩:=H
           by_cases bA:aR>a0_1
           ·rw[if_pos bA]at H;have dE:decide (a0_1<aR)=true:=decide_eq_true bA;clear bA;obtain rfl:=Option.some.inj H;obtain⟨aF,aG,aI,A127_0,c127_0,e127,aH,aJ,hi127_0⟩:=aq_ (at_L9 aO.out aB)
            cases e127;(try replace aH:=bt_ HB aH);have aP:=mk_ hi127_0;have aQ:=mk_ aJ;clear hi127_0 aJ
            try go_wp2
            replace aA:=bd_ aA;replace HB:=bw_ HB;have aK:0≤(0:Int):=(by omega);have aL:0<(l0_2.length:Int):=od_;obtain⟨aU,A128_0,c128_0,e128,aD,aN,hi128_0⟩:=at_L9 aO.out 0 aK aL;have aC:=aD;(try rw[show((0:Int)).toNat=0 from rfl]at aC);(try rw[show 0*1=0 from rfl]at aC);(try rw[Addr.add_zero']at aC);obtain rfl:aI=aU:=(by injection e128);have qi128:(0<l0_2.length)=True:=eq_true (by omega);(try rw[show((0:Int)).toNat=0 from rfl]at aD);(try rw[Addr.add_zero']at aD);(try replace aD:=bt_ HB aD);have aV:=mk_ hi128_0;have bL:=mk_ aN;clear hi128_0 aN;replace aK:=eq_true aK;replace aL:=eq_true aL
            generalize hD_:wr.drew=dQ at aA HB aV aD;refine sx_ (n:=30) (ds:=[]) hD_ (cw3_ aA (bt_ HB aC)) (fun hHeld=>?_);refine with_tabW least_Right.tab6 least_Right.bits6 (fun HT_ HW_=>?_);clear hD_;refine p1_ 0 1 ?_;refine p1_ 1 3 ?_;refine p1_ 2 7 ?_;refine p1_ 3 15 ?_;refine p1_ 4 31 ?_;refine p1_ 5 63 ?_;refine p1_ 6 127 ?_;refine p1_ 7 255 ?_;refine p1_ 8 511 ?_;refine p1_ 9 1023 ?_;refine p1_ 10 2047 ?_;refine p1_ 11 4095 ?_;refine t1_ 12 8191 ?_;refine p1_ 13 16383 ?_;refine t1_ 14 32767 ?_;refine p1_ 15 65535 ?_;refine p1_ 16 131071 ?_;refine p1_ 17 262143 ?_;refine p1_ 18 524287 ?_;refine p1_ 19 1048575 ?_;refine oq_ 20 (some 52) 30 2097151 HT_ (fun K hK=>?_);refine gt_ Try.func65 (slices_Min_int_int.calls k2 _ _ (rd_L9 l0_2 aB) aT _ ?side1 ?side2 bK.out) ?_
            (case side1=>exact ck_ (Kd.C_below aP.out HB.out));(case side2=>exact aQ.out);intro dR hb;replace aA:=bb_ aA hb;replace HB:=bs_ HB hb;(try clear hb);refine hK.out _ _ hl_ (fun hHeld=>?_);clear hK K;refine nm_ 52 ?_;refine p1_ 21 4194303 ?_;refine p1_ 22 8388607 ?_;refine p1_ 23 16777215 ?_;refine p1_ 24 33554431 ?_;refine p1_ 26 100663295 ?_;refine t1_ 27 234881023 ?_;refine oq_ 25 (some 57) 30 268435455 HT_ (fun K hK=>?_);refine gt_ Try.func66 (slices_Max_int_int.calls k2 _ _ (rd_L9 l0_2 aB) aR _ ?side1 ?side2 cM.out) ?_
            (case side1=>exact ck_ (Kd.C_below aP.out HB.out));(case side2=>exact aQ.out);intro dS hb;replace aA:=bb_ aA hb;replace HB:=bs_ HB hb;(try clear hb);refine hK.out _ _ hl_ (fun hHeld=>?_);clear hK K;refine nm_ 57 ?_;refine p1_ 28 536870911 ?_;refine p1_ 29 1073741823 ?_;refine dq_ HT_ ?_
            try go_wp2
            go_ret;exact⟨er_,bl_ HB⟩
           ·rw[if_neg bA]at H;have dE:decide (a0_1<aR)=false:=decide_eq_false bA;clear bA;have H':=mk_ H;clear H;obtain⟨aF,aG,aI,A127_0,c127_0,e127,aH,aJ,hi127_0⟩:=aq_ (at_L9 aO.out aB)
            cases e127;(try replace aH:=bt_ HB aH);have aP:=mk_ hi127_0;have aQ:=mk_ aJ;clear hi127_0 aJ
            try go_wp2
            replace aA:=bd_ aA;replace HB:=bw_ HB;have aK:0≤(0:Int):=(by omega);have aL:0<(l0_2.length:Int):=od_;obtain⟨aU,A128_0,c128_0,e128,aD,aN,hi128_0⟩:=at_L9 aO.out 0 aK aL;have aC:=aD;(try rw[show((0:Int)).toNat=0 from rfl]at aC);(try rw[show 0*1=0 from rfl]at aC);(try rw[Addr.add_zero']at aC);obtain rfl:aI=aU:=(by injection e128);have qi128:(0<l0_2.length)=True:=eq_true (by omega);(try rw[show((0:Int)).toNat=0 from rfl]at aD);(try rw[Addr.add_zero']at aD);(try replace aD:=bt_ HB aD);have aV:=mk_ hi128_0;have bL:=mk_ aN;clear hi128_0 aN;replace aK:=eq_true aK;replace aL:=eq_true aL
            generalize hD_:wr.drew=dT at aA HB aV aD;refine sx_ (n:=30) (ds:=[]) hD_ (cw3_ aA (bt_ HB aC)) (fun hHeld=>?_);refine with_tabW least_Right.tab6 least_Right.bits6 (fun HT_ HW_=>?_);clear hD_;refine p1_ 0 1 ?_;refine p1_ 1 3 ?_;refine p1_ 2 7 ?_;refine p1_ 3 15 ?_;refine p1_ 4 31 ?_;refine p1_ 5 63 ?_;refine p1_ 6 127 ?_;refine p1_ 7 255 ?_;refine p1_ 8 511 ?_;refine p1_ 9 1023 ?_;refine p1_ 10 2047 ?_;refine p1_ 11 4095 ?_;refine t1_ 12 8191 ?_;refine p1_ 13 16383 ?_;refine t1_ 14 32767 ?_;refine p1_ 15 65535 ?_;refine p1_ 16 131071 ?_;refine p1_ 17 262143 ?_;refine p1_ 18 524287 ?_;refine p1_ 19 1048575 ?_;refine oq_ 20 (some 52) 30 2097151 HT_ (fun K hK=>?_);refine gt_ Try.func65 (slices_Min_int_int.calls k2 _ _ (rd_L9 l0_2 aB) aT _ ?side1 ?side2 bK.out) ?_
            (case side1=>exact ck_ (Kd.C_below aP.out HB.out));(case side2=>exact aQ.out);intro dU hb;replace aA:=bb_ aA hb;replace HB:=bs_ HB hb;(try clear hb);refine hK.out _ _ hl_ (fun hHeld=>?_);clear hK K;refine nm_ 52 ?_;refine p1_ 21 4194303 ?_;refine p1_ 22 8388607 ?_;refine p1_ 23 16777215 ?_;refine p1_ 24 33554431 ?_;refine p1_ 26 100663295 ?_;refine t1_ 27 234881023 ?_;refine oq_ 25 (some 57) 30 268435455 HT_ (fun K hK=>?_);refine gt_ Try.func66 (slices_Max_int_int.calls k2 _ _ (rd_L9 l0_2 aB) aR _ ?side1 ?side2 cM.out) ?_
            (case side1=>exact ck_ (Kd.C_below aP.out HB.out));(case side2=>exact aQ.out);intro dV hb;replace aA:=bb_ aA hb;replace HB:=bs_ HB hb;(try clear hb);refine hK.out _ _ hl_ (fun hHeld=>?_);clear hK K;refine nm_ 57 ?_;refine p1_ 28 536870911 ?_;refine p1_ 29 1073741823 ?_;refine dq_ HT_ ?_
            try go_wp2
            go_roundg k2
            case measure=>have:=HJ1.out;have:=HK2.out;omega
            case rel=>exact⟨(wrap64 (aB+1)),eq_,H',⟨by have:=HJ1.out;have:=HK2.out;omega⟩,⟨bk_ aA⟩,⟨bl_ HB⟩⟩
         ·rw[if_neg aM]at H;have dA:=beq_eq_false_iff_ne.mpr aM;have dB:=bne_iff_ne.mpr aM
          have dC:((rd_L9 l0_2 aB).length==(rd_L9 l0_2 0).length)=false:=by first|simpa using aM|(simp at aM ⊢;omega)
          obtain rfl:=Option.some.inj H;obtain⟨aF,aG,aI,A127_0,c127_0,e127,aH,aJ,hi127_0⟩:=aq_ (at_L9 aO.out aB)
          cases e127;(try replace aH:=bt_ HB aH);have aP:=mk_ hi127_0;have aQ:=mk_ aJ;clear hi127_0 aJ
          try go_wp2
          replace aA:=bd_ aA;replace HB:=bw_ HB;have aK:0≤(0:Int):=(by omega);have aL:0<(l0_2.length:Int):=od_;obtain⟨aU,A128_0,c128_0,e128,aD,aN,hi128_0⟩:=at_L9 aO.out 0 aK aL;have aC:=aD;(try rw[show((0:Int)).toNat=0 from rfl]at aC);(try rw[show 0*1=0 from rfl]at aC);(try rw[Addr.add_zero']at aC);obtain rfl:aI=aU:=(by injection e128);have qi128:(0<l0_2.length)=True:=eq_true (by omega);(try rw[show((0:Int)).toNat=0 from rfl]at aD);(try rw[Addr.add_zero']at aD);(try replace aD:=bt_ HB aD);have aV:=mk_ hi128_0;have bL:=mk_ aN;clear hi128_0 aN;replace aK:=eq_true aK;replace aL:=eq_true aL
          generalize hD_:wr.drew=dW at aA HB aV aD;refine sx_ (n:=30) (ds:=[]) hD_ (cw3_ aA (bt_ HB aC)) (fun hHeld=>?_);refine with_tabW least_Right.tab6 least_Right.bits6 (fun HT_ HW_=>?_);clear hD_;refine p1_ 0 1 ?_;refine p1_ 1 3 ?_;refine p1_ 2 7 ?_;refine p1_ 3 15 ?_;refine p1_ 4 31 ?_;refine p1_ 5 63 ?_;refine p1_ 6 127 ?_;refine p1_ 7 255 ?_;refine p1_ 8 511 ?_;refine p1_ 9 1023 ?_;refine p1_ 10 2047 ?_;refine p1_ 11 4095 ?_;refine t1_ 12 8191 ?_;refine p1_ 13 16383 ?_;refine t1_ 14 32767 ?_;refine p1_ 15 65535 ?_;refine p1_ 16 131071 ?_;refine p1_ 17 262143 ?_;refine p1_ 18 524287 ?_;refine uq_ [(19,51),(20,52),(21,53)] 8 30 4194303 HT_ ?_;refine p1_ 22 8388607 ?_;refine p1_ 23 16777215 ?_;refine uq_ [(24,56),(25,57),(26,58),(27,59),(28,60)] 1 30 536870911 HT_ ?_;refine p1_ 29 1073741823 ?_;refine dq_ HT_ ?_
          try go_wp2
          go_ret;exact⟨er_,bl_ HB⟩
      ·clear H;have H:=h_;clear h_;obtain rfl:=Option.some.inj H
       go_wp2
       go_ret;exact⟨er_,bl_ HB⟩
end Go.Proofs.Ytljmjjeghebdpaa.PElasticTurns
