/- Functions, each as a plain function, with the proof that a call comes to its answer. Condition of each: the arguments read as the data that it names, and the plain function has an answer. -/
import Derived.Test.YtljmjjeghebdpaaPElasticTurnsx0
import Derived.Test.YtljmjjeghebdpaaShort
import Derived.Lib.SliceRun
import Derived.Test.YtljmjjeghebdpaaPressMore
import Derived.Test.YtljmjjeghebdpaaPElasticTurnsx10
namespace Go.Proofs.Ytljmjjeghebdpaa.PElasticTurns
open Go.RowKit Go.Proofs.YtljmjjeghebdpaaW.PrintWords Go.Proofs.YtljmjjeghebdpaaW.PrintLast Go.Proofs.YtljmjjeghebdpaaW.PrintMore Go.Proofs.Ytljmjjeghebdpaa.Short Go.Proofs.Ytljmjjeghebdpaa.Press Go.Proofs.Ytljmjjeghebdpaa.PressMore
set_option maxHeartbeats 80000000
set_option maxRecDepth 100000
attribute [local go_sem] max2_int min2_int max_two min_two max_three min_three max_four min_four
set_option linter.unusedVariables false
set_option linter.unusedSimpArgs false
section
theorem eqA100 (d:Nat)(w:World)(x0 y0:ByteArray)(x1 y1:Int):
    (Op.equalIn (d+2) 100 (.agg #[.string x0,.int .i64 x1]) (.agg #[.string y0,.int .i64 y1])).run Try.prog w=.ok (x0.toList==y0.toList && (x1==y1)) w:=by
  refine eqA_of Try.underlying100 (by kernel_rfl) ?_
  refine eqf_cons (by rfl) (by go_simp;rfl) (by go_simp;rfl) (by go_simp) ?_
  exact eqf_last (by rfl) (by go_simp;rfl) (by go_simp;rfl) (by go_simp)
attribute [local go_sem high] eqA100
def rillmeterlaw15_items.l0:Nat→List (S68)→List (S100)→Int→Int→Option (Bool)
  |0,_,_,_,_=>none
  |k+1,a,b,c,d=>if d<c then(if 0≤d then(if d<(a.length:Int)then(if d<(b.length:Int)then(if(!((((rd_T68 a d).f0).toList)==(((rd_T100 b d).f0).toList)) || (!(((rd_T68 a d).f1)==((rd_T100 b d).f1))))=true then(some false)else(rillmeterlaw15_items.l0 k a b c (wrap64 (d+1))))else(none))else(none))else(none))else(some true)
def rillmeterlaw15_items.f (k:Nat)(l0:List (S68))(l1:List (S100)):Option (Bool):=if(l0.length:Int)=(l1.length:Int)then(rillmeterlaw15_items.l0 k l0 l1 (l0.length:Int) 0)else(some false)
theorem rillmeterlaw15_items.mono_l:∀k,(∀y0 y1 y2 y3,LeO (rillmeterlaw15_items.l0 k y0 y1 y2 y3) (rillmeterlaw15_items.l0 (k+1) y0 y1 y2 y3))
  |0=>fun _ _ _ _ r h=>by simp[rillmeterlaw15_items.l0]at h
  |k+1=>by
    have ih0:=rillmeterlaw15_items.mono_l k
    · intro y0 y1 y2 y3
      unfold rillmeterlaw15_items.l0
      repeat' with_reducible first|exact ih0 .. |exact LeO.refl _|exact LeO.none _|refine LeO.ite ?_ ?_|refine LeO.bind ?_ (fun _=>?_)
theorem rillmeterlaw15_items.mono:∀a0 a1 k,LeO (rillmeterlaw15_items.f k a0 a1) (rillmeterlaw15_items.f (k+1) a0 a1):=by
  intro a0 a1 k
  have ih0:=rillmeterlaw15_items.mono_l k
  unfold rillmeterlaw15_items.f
  repeat' with_reducible first|exact ih0 .. |exact LeO.refl _|exact LeO.none _|refine LeO.ite ?_ ?_|refine LeO.bind ?_ (fun _=>?_)
theorem rillmeterlaw15_items.calls (k:Nat)(A0:Option Addr)(c0:Nat)(l0:List (S68))(A1:Option Addr)(c1:Nat)(l1:List (S100))(r:Bool)(w:World)(hr0:Kd.C k68 w A0 l0.length l0)(hc0:l0.length≤c0)(hr1:Kd.C k100 w A1 l1.length l1)(hc1:l1.length≤c1)(h:rillmeterlaw15_items.f k l0 l1=some r):
    Calls Try.prog 17 #[.slice A0 l0.length c0,.slice A1 l1.length c1] w fun e w'=>e=.returned (.bool r)∧Drawn0 w w':=by
 have hu68:=Try.underlying68;have hu100:=Try.underlying100;have HR0:=mk_ hr0;have HC0:=mk_ hc0;clear hr0 hc0;have HR1:=mk_ hr1;have HC1:=mk_ hc1;clear hr1 hc1;have H:=h;clear h;unfold rillmeterlaw15_items.f at H
 by_cases c3:(l0.length:Int)=(l1.length:Int)
 ·rw[if_pos c3]at H;have aH:=beq_iff_eq.mpr c3;have aI:=bne_eq_false_iff_eq.mpr c3
  have aJ:(l0.length==l1.length)=true:=by first|simpa using c3|(simp at c3 ⊢;omega)
  clear c3;have H':=mk_ H;clear H
  go_enter Try.func17,Try.ntmps17
  go_wp2
  repeat(go_quiet (fail);try go_wp2)
  go_loopg [13] k (fun kq aK w'=>∃(aA:Int),aK=.int .i64 aA∧Aside0 (rillmeterlaw15_items.l0 kq l0 l1 (l0.length:Int) aA=some r)∧Aside0 (kq≤k)∧Drawn0 w w')
  case atStart=>exact⟨(0),eq_,H',⟨Nat.le_refl _⟩,by repeat(first|exact Drawn0.refl _|apply Drawn0.step)⟩
  case round=>
   clear H';(try clear c1);(try clear c3);(try clear aH);(try clear aI);(try clear aJ);obtain⟨aA,rfl,HA,HK1,⟨m1,rfl⟩⟩:=hrel
   cases gk with
   |zero=>exact absurd HA.out (by simp[rillmeterlaw15_items.l0])
   |succ k1=>
    have H:=HA.out;clear HA;simp only[rillmeterlaw15_items.l0]at H
    rcases ic_ H with⟨aM,h_⟩|⟨aM,h_⟩
    ·clear H;have H:=h_;clear h_;replace H:=it_ H;obtain⟨aX,H⟩:=H;replace H:=it_ H;obtain⟨aY,H⟩:=H;replace H:=it_ H;obtain⟨aZ,H⟩:=H
     by_cases c8:(!((((rd_T68 l0 aA).f0).toList)==(((rd_T100 l1 aA).f0).toList)) || (!(((rd_T68 l0 aA).f1)==((rd_T100 l1 aA).f1))))=true
     ·rw[if_pos c8]at H;have aN:(!((((rd_T68 l0 aA).f0).toList)==(((rd_T100 l1 aA).f0).toList)) || (!(((rd_T68 l0 aA).f1)==((rd_T100 l1 aA).f1))))=true:=c8;clear c8;obtain rfl:=Option.some.inj H;obtain⟨aC,aD,aQ,e475,aR,aT⟩:=aq_ (at_T68 HR0.out aA)
      cases e475;have aE:0≤(aA:Int):=od_;have aG:aA<(l1.length:Int):=od_;obtain⟨aU,e476,aV,aW⟩:=at_T100 HR1.out aA aE aG
      cases e476;replace aE:=eq_true aE;replace aG:=eq_true aG
      go_wp2
      repeat(go_quiet (fail);try go_wp2)
      go_ret;exact⟨by first|rfl|(simp;done)|(simp[*];done),by repeat(first|exact Drawn0.refl _|apply Drawn0.step)⟩
     ·rw[if_neg c8]at H
      have aN:(!((((rd_T68 l0 aA).f0).toList)==(((rd_T100 l1 aA).f0).toList)) || (!(((rd_T68 l0 aA).f1)==((rd_T100 l1 aA).f1))))=false:=by simpa using c8
      clear c8;have H':=mk_ H;clear H;obtain⟨aC,aD,aQ,e475,aR,aT⟩:=aq_ (at_T68 HR0.out aA)
      cases e475;have aE:0≤(aA:Int):=od_;have aG:aA<(l1.length:Int):=od_;obtain⟨aU,e476,aV,aW⟩:=at_T100 HR1.out aA aE aG
      cases e476;replace aE:=eq_true aE;replace aG:=eq_true aG
      go_wp2
      repeat(go_quiet (fail);try go_wp2)
      go_roundg k1
      case measure=>have:=HK1.out;omega
      case rel=>exact⟨(wrap64 (aA+1)),eq_,H',⟨by have:=HK1.out;omega⟩,by repeat(first|exact Drawn0.refl _|apply Drawn0.step)⟩
    ·clear H;have H:=h_;clear h_;obtain rfl:=Option.some.inj H
     go_wp2
     repeat(go_quiet (fail);try go_wp2)
     go_ret;exact⟨by first|rfl|(simp;done)|(simp[*];done),by repeat(first|exact Drawn0.refl _|apply Drawn0.step)⟩
 ·rw[if_neg c3]at H;have aH:=beq_eq_false_iff_ne.mpr c3;have aI:=bne_iff_ne.mpr c3
  have aJ:(l0.length==l1.length)=false:=by first|simpa using c3|(simp at c3 ⊢;omega)
  obtain rfl:=Option.some.inj H
  go_enter Try.func17,Try.ntmps17
  go_wp2
  repeat(go_quiet (fail);try go_wp2)
  go_ret;exact⟨by first|rfl|(simp;done)|(simp[*];done),by repeat(first|exact Drawn0.refl _|apply Drawn0.step)⟩
def rillmeterref14_Ahead.f (a0_0:ByteArray)(a0_1:Int)(a1_0:ByteArray)(a1_1:Int):Option (Bool):=if a0_1>a1_1 then(some true)else(if a0_1=a1_1 then(some (Op.bytesLess a0_0.toList a1_0.toList))else(some false))
theorem rillmeterref14_Ahead.calls (a0_0:ByteArray)(a0_1:Int)(a1_0:ByteArray)(a1_1:Int)(r:Bool)(w:World)(h:rillmeterref14_Ahead.f a0_0 a0_1 a1_0 a1_1=some r):
    Calls Try.prog 70 #[.agg #[.string a0_0,.int .i64 a0_1],.agg #[.string a1_0,.int .i64 a1_1]] w fun e w'=>e=.returned (.bool r)∧Below w.heap.size w w':=by
 have hu100:=Try.underlying100;have HB:=mk_ (Below.refl w.heap.size w);have H:=h;clear h;unfold rillmeterref14_Ahead.f at H
 by_cases c3:a0_1>a1_1
 ·rw[if_pos c3]at H;have aR:decide (a1_1<a0_1)=true:=decide_eq_true c3;clear c3;obtain rfl:=Option.some.inj H
  go_enter Try.func70,Try.ntmps70
  go_wp2_with (first|(with_reducible refine gq_ 2 ?_;refine bx_ 2 #[.string a0_0,.int .i64 a0_1] 100 ?_;intro aD hg w4 hbox hb;have aA:=mk_ (hbox);have aK:=gx_ hg HB;have aM:=gx_ hg HB;replace HB:=bs_ HB hb;clear hb hbox hg)|(with_reducible refine gq_ 3 ?_;refine bx_ 3 #[.string a1_0,.int .i64 a1_1] 100 ?_;intro aE hg w5 hbox hb;have aC:=mk_ (hbox);have aN:=gx_ hg HB;have aQ:=gx_ hg HB;have aG:=nx_ hg aA;have:=aG.out;have aH:=ny_ hg aA;have:=aH.out;replace aA:=bb_ aA hb;replace HB:=bs_ HB hb;clear hb hbox hg;have:=cz2_ aA;have:=fz2_ aA;have:=cz2_ aC;have:=fz2_ aC))
  go_ret;exact⟨er_,bl_ HB⟩
 ·rw[if_neg c3]at H;have aR:decide (a1_1<a0_1)=false:=decide_eq_false c3;clear c3
  by_cases c9:a0_1=a1_1
  ·rw[if_pos c9]at H;have aT:=beq_iff_eq.mpr c9;have aU:=bne_eq_false_iff_eq.mpr c9;clear c9;obtain rfl:=Option.some.inj H
   go_enter Try.func70,Try.ntmps70
   go_wp2_with (first|(with_reducible refine gq_ 2 ?_;refine bx_ 2 #[.string a0_0,.int .i64 a0_1] 100 ?_;intro aD hg bF hbox hb;have aA:=mk_ (hbox);have aK:=gx_ hg HB;have aM:=gx_ hg HB;replace HB:=bs_ HB hb;clear hb hbox hg)|(with_reducible refine gq_ 3 ?_;refine bx_ 3 #[.string a1_0,.int .i64 a1_1] 100 ?_;intro aE hg aI hbox hb;have aC:=mk_ (hbox);have aN:=gx_ hg HB;have aQ:=gx_ hg HB;have aG:=nx_ hg aA;have:=aG.out;have aH:=ny_ hg aA;have:=aH.out;replace aA:=bb_ aA hb;replace HB:=bs_ HB hb;clear hb hbox hg;have:=cz2_ aA;have:=fz2_ aA;have:=cz2_ aC;have:=fz2_ aC))
   go_ret;exact⟨er_,bl_ HB⟩
  ·rw[if_neg c9]at H;have aT:=beq_eq_false_iff_ne.mpr c9;have aU:=bne_iff_ne.mpr c9;obtain rfl:=Option.some.inj H
   go_enter Try.func70,Try.ntmps70
   go_wp2_with (first|(with_reducible refine gq_ 2 ?_;refine bx_ 2 #[.string a0_0,.int .i64 a0_1] 100 ?_;intro aD hg bQ hbox hb;have aA:=mk_ (hbox);have aK:=gx_ hg HB;have aM:=gx_ hg HB;replace HB:=bs_ HB hb;clear hb hbox hg)|(with_reducible refine gq_ 3 ?_;refine bx_ 3 #[.string a1_0,.int .i64 a1_1] 100 ?_;intro aE hg aJ hbox hb;have aC:=mk_ (hbox);have aN:=gx_ hg HB;have aQ:=gx_ hg HB;have aG:=nx_ hg aA;have:=aG.out;have aH:=ny_ hg aA;have:=aH.out;replace aA:=bb_ aA hb;replace HB:=bs_ HB hb;clear hb hbox hg;have:=cz2_ aA;have:=fz2_ aA;have:=cz2_ aC;have:=fz2_ aC))
   go_ret;exact⟨er_,bl_ HB⟩
def rillmeterref14_Put.l0:Nat→List (S100)→List (S100)→Bool→Int→ByteArray→Int→Option ((List (S100)))
  |0,_,_,_,_,_,_=>none
  |k+1,a,b,c,d,e,g=>if d<(a.length:Int)then(if c=true then(if 0≤d then(if b.length<5864062014805 then(rillmeterref14_Put.l0 k a (b++[(⟨(rd_T100 a d).f0,(rd_T100 a d).f1⟩:S100)]) c (wrap64 (d+1)) e g)else(none))else(none))else(if 0≤d then((rillmeterref14_Ahead.f e g ((rd_T100 a d).f0) ((rd_T100 a d).f1)).bind fun t485=>(if t485=true then(if b.length<5864062014805 then((some (b++[(⟨e,g⟩:S100)]:List (S100))).bind fun y486=>(if y486.length<5864062014805 then(rillmeterref14_Put.l0 k a (y486++[(⟨(rd_T100 a d).f0,(rd_T100 a d).f1⟩:S100)]) true (wrap64 (d+1)) e g)else(none)))else(none))else(if b.length<5864062014805 then(rillmeterref14_Put.l0 k a (b++[(⟨(rd_T100 a d).f0,(rd_T100 a d).f1⟩:S100)]) c (wrap64 (d+1)) e g)else(none))))else(none)))else(if c=true then(some b)else(if b.length<5864062014805 then(some (b++[(⟨e,g⟩:S100)]))else(none)))
def rillmeterref14_Put.f (k:Nat)(l0:List (S100))(a1_0:ByteArray)(a1_1:Int):Option ((List (S100))):=rillmeterref14_Put.l0 k l0 ([]:List (S100)) false 0 a1_0 a1_1
theorem rillmeterref14_Put.mono_l:∀k,(∀y0 y1 y2 y3 y4 y5,LeO (rillmeterref14_Put.l0 k y0 y1 y2 y3 y4 y5) (rillmeterref14_Put.l0 (k+1) y0 y1 y2 y3 y4 y5))
  |0=>fun _ _ _ _ _ _ r h=>by simp[rillmeterref14_Put.l0]at h
  |k+1=>by
    have ih0:=rillmeterref14_Put.mono_l k
    · intro y0 y1 y2 y3 y4 y5
      unfold rillmeterref14_Put.l0
      repeat' with_reducible first|exact ih0 .. |exact LeO.refl _|exact LeO.none _|refine LeO.ite ?_ ?_|refine LeO.bind ?_ (fun _=>?_)
theorem rillmeterref14_Put.mono:∀a0 a1 a2 k,LeO (rillmeterref14_Put.f k a0 a1 a2) (rillmeterref14_Put.f (k+1) a0 a1 a2):=by
  intro a0 a1 a2 k
  have ih0:=rillmeterref14_Put.mono_l k
  unfold rillmeterref14_Put.f
  repeat' with_reducible first|exact ih0 .. |exact LeO.refl _|exact LeO.none _|refine LeO.ite ?_ ?_|refine LeO.bind ?_ (fun _=>?_)
def rillmeterref14_Put.T6:Bool × List (List Nat × List Nat):=(true,[([],[]),([0],[0]),([1],[1]),([2],[2]),([2],[2]),([2],[2]),([4,5,2],[2,4,5]),([6,2],[2,6]),([3,7,2,2],[2,3,7]),([2,8],[2,8])])
def rillmeterref14_Put.B6:List Nat:=[0,1,3,7,7,7,55,119,255,511]
theorem rillmeterref14_Put.tab6:rtab .any (opsOf Try.f48 6)=rillmeterref14_Put.T6:=by kernel_rfl
theorem rillmeterref14_Put.bits6:waitsOk rillmeterref14_Put.T6.2 rillmeterref14_Put.B6=true:=by kernel_rfl
theorem rillmeterref14_Put.calls (k:Nat)(A0:Option Addr)(c0:Nat)(l0:List (S100))(a1_0:ByteArray)(a1_1:Int)(r:List (S100))(w:World)(hr0:Kd.C k100 w A0 l0.length l0)(hc0:l0.length≤c0)(h:rillmeterref14_Put.f k l0 a1_0 a1_1=some r):
    Calls Try.prog 48 #[.slice A0 l0.length c0,.agg #[.string a1_0,.int .i64 a1_1]] w fun e w'=>∃v0_:Value,e=.returned (v0_)∧Kd.R k100 100 w' w.heap.size (fun _=>True) v0_ r∧Below w.heap.size w w':=by
 have hu100:=Try.underlying100;have HR0:=mk_ hr0;have HC0:=mk_ hc0;clear hr0 hc0;have HB:=mk_ (Below.refl w.heap.size w);have H:=h;clear h;unfold rillmeterref14_Put.f at H;have H':=mk_ H;clear H
 go_enter Try.func48,Try.ntmps48
 go_wp2_with (first|(with_reducible refine gq_ 3 ?_;refine bx_ 3 #[.string a1_0,.int .i64 a1_1] 100 ?_;intro aG hg w3 hbox hb;have aC:=mk_ (hbox);have cJ:=gx_ hg HB;have cK:=gx_ hg HB;replace HB:=bs_ HB hb;clear hb hbox hg))
 go_loopg [5,6,7] k (fun kq v5 v6 v7 w'=>∃(aD:List (S100))(aR:Bool)(aA:Int),v6=.bool aR∧v7=.int .i64 aA∧Aside0 (rillmeterref14_Put.l0 kq l0 aD aR aA a1_0 a1_1=some r)∧Aside0 (kq≤k)∧Aside0 (Kd.R k100 100 w' w.heap.size (fun k_=>k_≠aG) v5 aD)∧Aside0 (w'.heap[aG]? =some (.cells #[.string a1_0,.int .i64 a1_1] 100 (0,0)))∧Aside0 (Below w.heap.size w w'))
 case atStart=>exact⟨(([]:List (S100))),(false),(0),eq_,eq_,H',⟨Nat.le_refl _⟩,⟨by first|exact Kd.R_nil _ _ _ _ _|exact Kd.N_nil _ _ _ _ _|exact Kd.V_nil _ _ _ _ _|exact Kd.Q_nil _ _ _ _ _|exact Kd.S_nil _ _ _ _ _⟩,⟨bk_ aC⟩,⟨bl_ HB⟩⟩
 case round=>
  clear H';obtain⟨aD,aR,aA,rfl,rfl,HA,HK1,aE,aC,HB⟩:=hrel
  cases gk with
  |zero=>exact absurd HA.out (by simp[rillmeterref14_Put.l0])
  |succ k1=>
   have H:=HA.out;clear HA;simp only[rillmeterref14_Put.l0]at H
   rcases ic_ H with⟨bR,h_⟩|⟨bR,h_⟩
   ·clear H;have H:=h_;clear h_
    by_cases c5:aR=true
    ·subst c5
     rw[if_pos rfl]at H;replace H:=it_ H;obtain⟨cL,H⟩:=H;replace H:=ip_ H;obtain⟨c7,H⟩:=H;have bS:=mk_ c7;clear c7;obtain⟨y481,hy481⟩:∃y_:List (S100),y_=(aD++[(⟨(rd_T100 l0 aA).f0,(rd_T100 l0 aA).f1⟩:S100)]):=⟨_,rfl⟩
     (try replace H:=(Option.bind_some _ _).symm.trans H);(try rw[←hy481]at H)
     have bT:=mk_ hy481;clear hy481;have H':=mk_ H;clear H
     try go_wp2
     replace aE:=mk_ (Kd.R_drew aE.out);replace aC:=bd_ aC;replace HB:=bw_ HB;refine start_ (n:=10) (S:=fun w'=>True) (ds:=[]) (mB 10 0) (by kernel_rfl) rfl rfl trivial (fun hHeld=>?_);refine with_tabW rillmeterref14_Put.tab6 rillmeterref14_Put.bits6 (fun HT_ HW_=>?_);generalize wr.drew=w8 at aE aC HB hHeld ⊢;refine p1_ 0 1 ?_;refine p1_ 1 3 ?_;refine p1_ 2 7 ?_;refine uq_ [(3,17),(4,18),(5,19),(6,20),(7,21),(8,22)] 1 10 511 HT_ ?_;refine p1_ 9 1023 ?_;refine dq_ HT_ ?_;obtain⟨bB,bC,cM,e480,bD,bE⟩:=aq_ (at_T100 HR0.out aA)
     cases e480;(try replace bD:=bt_ HB bD);(try replace bE:=bt_ HB bE)
     try go_wp2_with (first|((with_reducible refine gate_builtin (b:=.append) (xs:=#[.tmp 28,.tmp 33]) rfl ?_);at_builtin;refine Kd.R_append k100 (w0:=w) w.heap.size rfl (.tmp 28) (.tmp 33) 46 100 (.agg #[(.string ⟨#[]⟩),(.int .i64 0)]) 24 rfl Try.underlying46 info100 rfl (by decide) (by omega) u5 aD (⟨(rd_T100 l0 aA).f0,(rd_T100 l0 aA).f1⟩:S100) [.string ((rd_T100 l0 aA).f0),.int .i64 ((rd_T100 l0 aA).f1)] (fun k_=>k_≠aG) (fun _=>False) rfl rfl ?aP (fun _ hk=>hk.elim) ?aF ?aO ?aB ?aS ?aL ?_;(case aP=>exact k100_mkM _ _ _ (⟨(rd_T100 l0 aA).f0,(rd_T100 l0 aA).f1⟩:S100));(case aB=>exact(bl_ HB));(case aF=>exact(fun k_ hk=>Kd.freshB (bk_ aC) k_ hk));(case aO=>exact(rk_ aE));(case aS=>exact(below_size (bl_ HB)));(case aL=>have:=bS.out;omega);intro cN w9 ho hb hg hat;rw[←bT.out]at ho;have bU:=mk_ (ho);replace aC:=mk_ (blk_grown (bk_ aC) hg (Kd.R_away aE.out (fun _ hk=>hk)));replace HB:=mk_ (hb);clear aE;clear ho hb hg hat))
     go_roundg k1
     case measure=>have:=HK1.out;omega
     case rel=>exact⟨(y481),(true),(wrap64 (aA+1)),eq_,eq_,H',⟨by have:=HK1.out;omega⟩,⟨rr_ bU⟩,⟨bk_ aC⟩,⟨bl_ HB⟩⟩
    ·replace c5:=Bool.eq_false_iff.mpr c5;subst c5
     rw[if_neg (show¬(false=true)by decide)]at H;replace H:=it_ H;obtain⟨cO,H⟩:=H;replace H:=bi_ H;obtain⟨aT,bP,H⟩:=H
     by_cases aV:aT=true
     ·subst aV
      rw[if_pos rfl]at H;replace H:=ip_ H;obtain⟨aW,H⟩:=H;have bV:=mk_ aW;clear aW;obtain⟨y486,hy486⟩:∃y_:List (S100),y_=(aD++[(⟨a1_0,a1_1⟩:S100)]):=⟨_,rfl⟩
      (try replace H:=(Option.bind_some _ _).symm.trans H);(try rw[←hy486]at H)
      have bW:=mk_ hy486;clear hy486;replace H:=ip_ H;obtain⟨aX,H⟩:=H;have bX:=mk_ aX;clear aX;obtain⟨y490,hy490⟩:∃y_:List (S100),y_=(y486++[(⟨(rd_T100 l0 aA).f0,(rd_T100 l0 aA).f1⟩:S100)]):=⟨_,rfl⟩
      (try replace H:=(Option.bind_some _ _).symm.trans H);(try rw[←hy490]at H)
      have bY:=mk_ hy490;clear hy490;have H':=mk_ H;clear H
      try go_wp2
      replace aE:=mk_ (Kd.R_drew aE.out);replace aC:=bd_ aC;replace HB:=bw_ HB;obtain⟨aN,aQ,aJ,e484,aH,aI⟩:=aq_ (at_T100 HR0.out aA);have aK:=aI;have aM:=aH
      cases e484;(try replace aH:=bt_ HB aH);(try replace aI:=bt_ HB aI);generalize hD_:wr.drew=cP at aE aC HB aH aI;refine sx_ (n:=10) (ds:=[]) hD_ (cw2_ aC (And.intro (bt_ HB aM) (bt_ HB aK))) (fun hHeld=>?_);refine with_tabW rillmeterref14_Put.tab6 rillmeterref14_Put.bits6 (fun HT_ HW_=>?_);clear hD_;refine p1_ 0 1 ?_
      refine p1_ 1 3 ?_;refine p1_ 2 7 ?_;refine p1_ 4 23 ?_;refine p1_ 5 55 ?_;refine p1_ 6 119 ?_;refine t1_ 3 127 ?_;refine t1_ 7 255 ?_;refine oq_ 8 (some 22) 10 511 HT_ (fun K hK=>?_);refine gt_ Try.func70 (rillmeterref14_Ahead.calls a1_0 a1_1 ((rd_T100 l0 aA).f0) ((rd_T100 l0 aA).f1) true _ bP.out) ?_
      intro bQ hb;replace aE:=rb_ aE hb;replace aC:=bb_ aC hb;replace HB:=bs_ HB hb;(try clear hb);refine hK.out _ _ hl_ (fun hHeld=>?_);clear hK K;refine nm_ 22 ?_;refine p1_ 9 1023 ?_;refine dq_ HT_ ?_;have:=cz2_ aC;have:=fz2_ aC
      try go_wp2_with (first|((with_reducible refine gate_builtin (b:=.append) (xs:=#[.tmp 24,.tmp 26]) rfl ?_);at_builtin;refine Kd.R_append k100 (w0:=w) w.heap.size rfl (.tmp 24) (.tmp 26) 46 100 (.agg #[(.string ⟨#[]⟩),(.int .i64 0)]) 24 rfl Try.underlying46 info100 rfl (by decide) (by omega) u5 aD (⟨a1_0,a1_1⟩:S100) [.string a1_0,.int .i64 a1_1] (fun k_=>k_≠aG) (fun _=>False) rfl rfl ?aP (fun _ hk=>hk.elim) ?aF ?aO ?aB ?aS ?aL ?_;(case aP=>exact k100_mkM _ _ _ (⟨a1_0,a1_1⟩:S100));(case aB=>exact(bl_ HB));(case aF=>exact(fun k_ hk=>Kd.freshB (bk_ aC) k_ hk));(case aO=>exact(rk_ aE));(case aS=>exact(below_size (bl_ HB)));(case aL=>have:=bV.out;omega);intro bZ cU ho hb hg hat;rw[←bW.out]at ho;have bF:=mk_ (ho);replace aC:=mk_ (blk_grown (bk_ aC) hg (Kd.R_away aE.out (fun _ hk=>hk)));replace HB:=mk_ (hb);clear aE;clear ho hb hg hat;have bG:0≤(aA:Int):=od_;have bH:aA<(l0.length:Int):=od_;obtain⟨cA,e489,bI,bJ⟩:=at_T100 HR0.out aA bG bH;obtain rfl:aJ=cA:=(by injection e489);replace bI:=bt_ HB bI;replace bJ:=bt_ HB bJ;replace bG:=eq_true bG;replace bH:=eq_true bH)|((with_reducible refine gate_builtin (b:=.append) (xs:=#[.tmp 28,.tmp 33]) rfl ?_);at_builtin;refine Kd.R_append k100 (w0:=w) w.heap.size rfl (.tmp 28) (.tmp 33) 46 100 (.agg #[(.string ⟨#[]⟩),(.int .i64 0)]) 24 rfl Try.underlying46 info100 rfl (by decide) (by omega) bZ y486 (⟨(rd_T100 l0 aA).f0,(rd_T100 l0 aA).f1⟩:S100) [.string ((rd_T100 l0 aA).f0),.int .i64 ((rd_T100 l0 aA).f1)] (fun k_=>k_≠aG) (fun _=>False) rfl rfl ?aP (fun _ hk=>hk.elim) ?aF ?aO ?aB ?aS ?aL ?_;(case aP=>exact k100_mkM _ _ _ (⟨(rd_T100 l0 aA).f0,(rd_T100 l0 aA).f1⟩:S100));(case aB=>exact(bl_ HB));(case aF=>exact(fun k_ hk=>Kd.freshB (bk_ aC) k_ hk));(case aO=>exact(rk_ bF));(case aS=>exact(below_size (bl_ HB)));(case aL=>have:=bX.out;omega);intro cV cW ho hb hg hat;rw[←bY.out]at ho;have cB:=mk_ (ho);replace aC:=mk_ (blk_grown (bk_ aC) hg (Kd.R_away bF.out (fun _ hk=>hk)));replace HB:=mk_ (hb);clear bF;clear ho hb hg hat))
      go_roundg k1
      case measure=>have:=HK1.out;omega
      case rel=>exact⟨(y490),(true),(wrap64 (aA+1)),eq_,eq_,H',⟨by have:=HK1.out;omega⟩,⟨rr_ cB⟩,⟨bk_ aC⟩,⟨bl_ HB⟩⟩
     ·replace aV:=Bool.eq_false_iff.mpr aV;subst aV
      rw[if_neg (show¬(false=true)by decide)]at H;replace H:=ip_ H;obtain⟨aY,H⟩:=H;have cC:=mk_ aY;clear aY;obtain⟨y494,hy494⟩:∃y_:List (S100),y_=(aD++[(⟨(rd_T100 l0 aA).f0,(rd_T100 l0 aA).f1⟩:S100)]):=⟨_,rfl⟩
      (try replace H:=(Option.bind_some _ _).symm.trans H);(try rw[←hy494]at H)
      have cD:=mk_ hy494;clear hy494;have H':=mk_ H;clear H
      try go_wp2
      replace aE:=mk_ (Kd.R_drew aE.out);replace aC:=bd_ aC;replace HB:=bw_ HB;obtain⟨aN,aQ,aJ,e484,aH,aI⟩:=aq_ (at_T100 HR0.out aA);have aK:=aI;have aM:=aH
      cases e484;(try replace aH:=bt_ HB aH);(try replace aI:=bt_ HB aI);generalize hD_:wr.drew=cX at aE aC HB aH aI;refine sx_ (n:=10) (ds:=[]) hD_ (cw2_ aC (And.intro (bt_ HB aM) (bt_ HB aK))) (fun hHeld=>?_);refine with_tabW rillmeterref14_Put.tab6 rillmeterref14_Put.bits6 (fun HT_ HW_=>?_);clear hD_;refine p1_ 0 1 ?_
      refine p1_ 1 3 ?_;refine p1_ 2 7 ?_;refine p1_ 4 23 ?_;refine p1_ 5 55 ?_;refine p1_ 6 119 ?_;refine t1_ 3 127 ?_;refine t1_ 7 255 ?_;refine oq_ 8 (some 22) 10 511 HT_ (fun K hK=>?_);refine gt_ Try.func70 (rillmeterref14_Ahead.calls a1_0 a1_1 ((rd_T100 l0 aA).f0) ((rd_T100 l0 aA).f1) false _ bP.out) ?_
      intro cY hb;replace aE:=rb_ aE hb;replace aC:=bb_ aC hb;replace HB:=bs_ HB hb;(try clear hb);refine hK.out _ _ hl_ (fun hHeld=>?_);clear hK K;refine nm_ 22 ?_;refine p1_ 9 1023 ?_;refine dq_ HT_ ?_;obtain⟨bK,bL,cE,e493,bM,bN⟩:=aq_ (at_T100 HR0.out aA);obtain rfl:aJ=cE:=(by injection e493);(try replace bM:=bt_ HB bM);(try replace bN:=bt_ HB bN)
      try go_wp2_with (first|((with_reducible refine gate_builtin (b:=.append) (xs:=#[.tmp 28,.tmp 33]) rfl ?_);at_builtin;refine Kd.R_append k100 (w0:=w) w.heap.size rfl (.tmp 28) (.tmp 33) 46 100 (.agg #[(.string ⟨#[]⟩),(.int .i64 0)]) 24 rfl Try.underlying46 info100 rfl (by decide) (by omega) u5 aD (⟨(rd_T100 l0 aA).f0,(rd_T100 l0 aA).f1⟩:S100) [.string ((rd_T100 l0 aA).f0),.int .i64 ((rd_T100 l0 aA).f1)] (fun k_=>k_≠aG) (fun _=>False) rfl rfl ?aP (fun _ hk=>hk.elim) ?aF ?aO ?aB ?aS ?aL ?_;(case aP=>exact k100_mkM _ _ _ (⟨(rd_T100 l0 aA).f0,(rd_T100 l0 aA).f1⟩:S100));(case aB=>exact(bl_ HB));(case aF=>exact(fun k_ hk=>Kd.freshB (bk_ aC) k_ hk));(case aO=>exact(rk_ aE));(case aS=>exact(below_size (bl_ HB)));(case aL=>have:=cC.out;omega);intro cZ dA ho hb hg hat;rw[←cD.out]at ho;have cF:=mk_ (ho);replace aC:=mk_ (blk_grown (bk_ aC) hg (Kd.R_away aE.out (fun _ hk=>hk)));replace HB:=mk_ (hb);clear aE;clear ho hb hg hat))
      go_roundg k1
      case measure=>have:=HK1.out;omega
      case rel=>exact⟨(y494),(false),(wrap64 (aA+1)),eq_,eq_,H',⟨by have:=HK1.out;omega⟩,⟨rr_ cF⟩,⟨bk_ aC⟩,⟨bl_ HB⟩⟩
   ·clear H;have H:=h_;clear h_
    by_cases aZ:aR=true
    ·subst aZ
     rw[if_pos rfl]at H;obtain rfl:=Option.some.inj H
     go_wp2
     go_ret;exact⟨_,er_,by(with_reducible repeat(first|apply Kd.R_alloc|apply Kd.R_drewN|apply Kd.R_drew));exact Kd.R_mono aE.out (fun _ hk=>trivial),bl_ HB⟩
    ·replace aZ:=Bool.eq_false_iff.mpr aZ;subst aZ
     rw[if_neg (show¬(false=true)by decide)]at H;replace H:=ip_ H;obtain⟨bA,H⟩:=H;have cG:=mk_ bA;clear bA;obtain⟨y497,hy497⟩:∃y_:List (S100),y_=(aD++[(⟨a1_0,a1_1⟩:S100)]):=⟨_,rfl⟩
     (try replace H:=(Option.bind_some _ _).symm.trans H);(try rw[←hy497]at H)
     have cH:=mk_ hy497;clear hy497;obtain rfl:=Option.some.inj H;have:=cz2_ aC;have:=fz2_ aC
     go_wp2_with (first|((with_reducible refine gate_builtin (b:=.append) (xs:=#[.tmp 37,.tmp 39]) rfl ?_);at_builtin;refine Kd.R_append k100 (w0:=w) w.heap.size rfl (.tmp 37) (.tmp 39) 46 100 (.agg #[(.string ⟨#[]⟩),(.int .i64 0)]) 24 rfl Try.underlying46 info100 rfl (by decide) (by omega) u5 aD (⟨a1_0,a1_1⟩:S100) [.string a1_0,.int .i64 a1_1] (fun k_=>k_≠aG) (fun _=>False) rfl rfl ?aP (fun _ hk=>hk.elim) ?aF ?aO ?aB ?aS ?aL ?_;(case aP=>exact k100_mkM _ _ _ (⟨a1_0,a1_1⟩:S100));(case aB=>exact(bl_ HB));(case aF=>exact(fun k_ hk=>Kd.freshB (bk_ aC) k_ hk));(case aO=>exact(rk_ aE));(case aS=>exact(below_size (bl_ HB)));(case aL=>have:=cG.out;omega);intro dF dG ho hb hg hat;rw[←cH.out]at ho;have cI:=mk_ (ho);replace aC:=mk_ (blk_grown (bk_ aC) hg (Kd.R_away aE.out (fun _ hk=>hk)));replace HB:=mk_ (hb);clear aE;clear ho hb hg hat))
     go_ret;exact⟨_,er_,by(with_reducible repeat(first|apply Kd.R_alloc|apply Kd.R_drewN|apply Kd.R_drew));exact Kd.R_mono cI.out (fun _ hk=>trivial),bl_ HB⟩
end
mutual
def rillmeterref15_List.l0:Nat→Int→List (S100)→Int→Int→Int→Int→List (S74)→Int→Int→List (List Int)→Option ((List (S100)))
  |0,_,_,_,_,_,_,_,_,_,_=>none
  |k+1,a,b,c,d,e,f,g,h,i,j=>if c<(g.length:Int)then(if 0≤c then(rillmeterref15_List.l1 k a b c ((rd_T74 g c).f0) (((rd_T74 g c).f0).length:Int) 0 d e f g h i j)else(none))else(some b)
def rillmeterref15_List.l1:Nat→Int→List (S100)→Int→List (S77)→Int→Int→Int→Int→Int→List (S74)→Int→Int→List (List Int)→Option ((List (S100)))
  |0,_,_,_,_,_,_,_,_,_,_,_,_,_=>none
  |k+1,a,b,c,d,e,g,h,i,j,l,m,n,o=>if g<e then(if 0≤g then(if g<(d.length:Int)then(if((rd_T77 d g).f1)≥a then((rillmeterref14_Put.f k b ((rd_T77 d g).f0) ((rd_T77 d g).f1)).bind fun t504=>(rillmeterref15_List.l1 k a t504 c d e (wrap64 (g+1)) h i j l m n o))else(rillmeterref15_List.l1 k a b c d e (wrap64 (g+1)) h i j l m n o))else(none))else(none))else(rillmeterref15_List.l0 k a b (wrap64 (c+1)) h i j l m n o)
end
def rillmeterref15_List.f (k:Nat)(a0_0 a0_1 a0_2:Int)(l0_3:List (S74))(a0_4 a0_5:Int)(l0_6:List (List Int))(a1:Int):Option ((List (S100))):=rillmeterref15_List.l0 k a1 ([]:List (S100)) 0 a0_0 a0_1 a0_2 l0_3 a0_4 a0_5 l0_6
theorem rillmeterref15_List.mono_l:∀k,(∀y0 y1 y2 y3 y4 y5 y6 y7 y8 y9,LeO (rillmeterref15_List.l0 k y0 y1 y2 y3 y4 y5 y6 y7 y8 y9) (rillmeterref15_List.l0 (k+1) y0 y1 y2 y3 y4 y5 y6 y7 y8 y9))∧(∀y0 y1 y2 y3 y4 y5 y6 y7 y8 y9 y10 y11 y12,LeO (rillmeterref15_List.l1 k y0 y1 y2 y3 y4 y5 y6 y7 y8 y9 y10 y11 y12) (rillmeterref15_List.l1 (k+1) y0 y1 y2 y3 y4 y5 y6 y7 y8 y9 y10 y11 y12))
  |0=>⟨fun _ _ _ _ _ _ _ _ _ _ r h=>by simp[rillmeterref15_List.l0]at h,fun _ _ _ _ _ _ _ _ _ _ _ _ _ r h=>by simp[rillmeterref15_List.l1]at h⟩
  |k+1=>by
    obtain⟨ih0,ih1⟩:=rillmeterref15_List.mono_l k
    refine⟨?_,?_⟩<;>intros
    all_goals first|unfold rillmeterref15_List.l0|unfold rillmeterref15_List.l1
    all_goals repeat' with_reducible first|exact ih0 .. |exact ih1 .. |exact rillmeterref14_Put.mono .. |exact LeO.refl _|exact LeO.none _|refine LeO.ite ?_ ?_|refine LeO.bind ?_ (fun _=>?_)
theorem rillmeterref15_List.mono:∀a0 a1 a2 a3 a4 a5 a6 a7 k,LeO (rillmeterref15_List.f k a0 a1 a2 a3 a4 a5 a6 a7) (rillmeterref15_List.f (k+1) a0 a1 a2 a3 a4 a5 a6 a7):=by
  intro a0 a1 a2 a3 a4 a5 a6 a7 k
  obtain⟨ih0,ih1⟩:=rillmeterref15_List.mono_l k
  unfold rillmeterref15_List.f
  repeat' with_reducible first|exact ih0 .. |exact ih1 .. |exact rillmeterref14_Put.mono .. |exact LeO.refl _|exact LeO.none _|refine LeO.ite ?_ ?_|refine LeO.bind ?_ (fun _=>?_)
theorem rillmeterref15_List.calls (k:Nat)(a0_0 a0_1 a0_2:Int)(A0_3:Option Addr)(c0_3:Nat)(l0_3:List (S74))(a0_4 a0_5:Int)(A0_6:Option Addr)(c0_6:Nat)(l0_6:List (List Int))(a1:Int)(r:List (S100))(w:World)(hr0_3:Kd.C k74 w A0_3 l0_3.length l0_3)(hc0_3:l0_3.length≤c0_3)(hr0_6:Kd.C (Kd.slice 3 (Kd.int .i64)) w A0_6 l0_6.length l0_6)(hc0_6:l0_6.length≤c0_6)(h:rillmeterref15_List.f k a0_0 a0_1 a0_2 l0_3 a0_4 a0_5 l0_6 a1=some r):
    Calls Try.prog 18 #[.agg #[.int .u64 a0_0,.int .i64 a0_1,.int .i64 a0_2,.slice A0_3 l0_3.length c0_3,.int .u64 a0_4,.int .i64 a0_5,.slice A0_6 l0_6.length c0_6],.int .i64 a1] w fun e w'=>∃v0_:Value,e=.returned (v0_)∧Kd.R k100 100 w' w.heap.size (fun _=>True) v0_ r∧Below w.heap.size w w':=by
 have hu32:=Try.underlying32;have hu77:=Try.underlying77;have hu100:=Try.underlying100;have bK:=mk_ hr0_3;have cJ:=mk_ hc0_3;clear hr0_3 hc0_3;have cK:=mk_ hr0_6;have cL:=mk_ hc0_6;clear hr0_6 hc0_6;have HB:=mk_ (Below.refl w.heap.size w);have H:=h;clear h;unfold rillmeterref15_List.f at H;have H':=mk_ H;clear H
 go_enter Try.func18,Try.ntmps18
 go_wp2_with (first|(refine gq_ 2 ?_;refine bx_ 2 #[.int .u64 a0_0,.int .i64 a0_1,.int .i64 a0_2,.slice A0_3 l0_3.length c0_3,.int .u64 a0_4,.int .i64 a0_5,.slice A0_6 l0_6.length c0_6] 32 ?_;intro aI hg w3 hbox hb;have aC:=mk_ (hbox);have cM:=gx_ hg HB;have cN:=gx_ hg HB;replace HB:=bs_ HB hb;clear hb hbox hg))
 go_loopg [5,6] k (fun kq v5 v6 w'=>∃(aV:List (S100))(aA:Int),v6=.int .i64 aA∧Aside0 (rillmeterref15_List.l0 kq a1 aV aA a0_0 a0_1 a0_2 l0_3 a0_4 a0_5 l0_6=some r)∧Aside0 (kq≤k)∧Aside0 (Kd.R k100 100 w' w.heap.size (fun _=>True) v5 aV)∧Aside0 (w'.heap[aI]? =some (.cells #[.int .u64 a0_0,.int .i64 a0_1,.int .i64 a0_2,(.slice A0_3 l0_3.length c0_3),.int .u64 a0_4,.int .i64 a0_5,(.slice A0_6 l0_6.length c0_6)] 32 (0,0)))∧Aside0 (Below w.heap.size w w'))
 case atStart=>exact⟨(([]:List (S100))),(0),eq_,H',⟨Nat.le_refl _⟩,⟨by first|exact Kd.R_nil _ _ _ _ _|exact Kd.N_nil _ _ _ _ _|exact Kd.V_nil _ _ _ _ _|exact Kd.Q_nil _ _ _ _ _|exact Kd.S_nil _ _ _ _ _⟩,⟨bk_ aC⟩,⟨bl_ HB⟩⟩
 case round=>
  clear H';obtain⟨aV,aA,rfl,HA,HK1,aH,aC,HB⟩:=hrel
  cases gk with
  |zero=>exact absurd HA.out (by simp[rillmeterref15_List.l0])
  |succ k1=>
   have H:=HA.out;clear HA;simp only[rillmeterref15_List.l0]at H
   rcases ic_ H with⟨bE,h_⟩|⟨bE,h_⟩
   ·clear H;have H:=h_;clear h_;replace H:=it_ H;obtain⟨bL,H⟩:=H;have H':=mk_ H;clear H;have:=cz7_ aC;have:=fz7_ aC;obtain⟨aW,aX,bF,A501_0,c501_0,e501,aY,aZ,bG,hi501_0⟩:=aq_ (at_T74 bK.out aA)
    cases e501;(try replace aY:=bt_ HB aY);(try replace aZ:=bt_ HB aZ);have bH:=mk_ hi501_0;have cO:=mk_ bG;clear hi501_0 bG
    go_wp2
    go_loopg [5,23] k1 (fun kq v5 cA w'=>∃(aK:List (S100))(aD:Int),cA=.int .i64 aD∧Aside0 (rillmeterref15_List.l1 kq a1 aK aA ((rd_T74 l0_3 aA).f0) (((rd_T74 l0_3 aA).f0).length:Int) aD a0_0 a0_1 a0_2 l0_3 a0_4 a0_5 l0_6=some r)∧Aside0 (kq≤k1)∧Aside0 (Kd.R k100 100 w' w.heap.size (fun _=>True) v5 aK)∧Aside0 (w'.heap[aI]? =some (.cells #[.int .u64 a0_0,.int .i64 a0_1,.int .i64 a0_2,(.slice (some bF) l0_3.length c0_3),.int .u64 a0_4,.int .i64 a0_5,(.slice A0_6 l0_6.length c0_6)] 32 (0,0)))∧Aside0 (Below w.heap.size w w'))
    case atStart=>exact⟨(aV),(0),eq_,H',⟨Nat.le_refl _⟩,⟨rr_ aH⟩,⟨bk_ aC⟩,⟨bl_ HB⟩⟩
    case round=>
     clear H';(try clear bE);(try clear bL);(try clear aY);(try clear aZ);(try clear aW);(try clear aX);obtain⟨aK,aD,rfl,HA,HK2,aH,aC,HB⟩:=hrel
     cases gk with
     |zero=>exact absurd HA.out (by simp[rillmeterref15_List.l1])
     |succ k2=>
      have H:=HA.out;clear HA;simp only[rillmeterref15_List.l1]at H
      rcases ic_ H with⟨cB,h_⟩|⟨cB,h_⟩
      ·clear H;have H:=h_;clear h_;replace H:=it_ H;obtain⟨cP,H⟩:=H;replace H:=it_ H;obtain⟨cQ,H⟩:=H
       by_cases aU:((rd_T77 ((rd_T74 l0_3 aA).f0) aD).f1)≥a1
       ·rw[if_pos aU]at H;have cC:decide (a1≤((rd_T77 ((rd_T74 l0_3 aA).f0) aD).f1))=true:=decide_eq_true aU;clear aU;replace H:=bi_ H;obtain⟨bA,cD,H⟩:=H;have H':=mk_ H;clear H;obtain⟨aM,aN,cE,e502,aQ,aR,aT⟩:=aq_ (at_T77 bH.out aD)
        cases e502;(try replace aQ:=bt_ HB aQ);(try replace aR:=bt_ HB aR);(try replace aT:=bt_ HB aT)
        go_wp2_with (first|(refine gq_ 8 ?_;refine bx_ 8 #[.string (⟨#[]⟩:ByteArray),.int .i64 0,.bool false] 77 ?_;intro aE hg bB hbox hb;have aG:=mk_ (hbox);have cF:=gx_ hg HB;have cG:=gx_ hg HB;have aJ:=nx_ hg aC;have:=aJ.out;have bC:=ny_ hg aC;have:=bC.out;replace aH:=rb_ aH hb;replace aC:=bb_ aC hb;replace HB:=bs_ HB hb;clear hb hbox hg;have:=cz3_ aG;have:=fz3_ aG;obtain⟨cH,bJ,eo15⟩:=Kd.R_slice aH.out;subst eo15)|(refine gk_ 48 ?_;refine gc_ (some 37) Try.func48 (rillmeterref14_Put.calls k2 _ _ aK ((rd_T77 ((rd_T74 l0_3 aA).f0) aD).f0) ((rd_T77 ((rd_T74 l0_3 aA).f0) aD).f1) bA _ ?side1 ?side2 cD.out) ?_;(case side1=>refine(Kd.R_reads' (e:=100) (base:=w.heap.size) (ok:=fun k_=>True) (n:=aK.length) (c:=bJ) ?_).2.2;exact(by(with_reducible repeat(first|apply Kd.R_alloc|apply Kd.R_drewN|apply Kd.R_drew));exact(Kd.R_mono (rf_ aE (Kd.R_types aH.out aG.out (by decide)) (fun _ hk=>hk.2)) (fun _ h_=>h_.1))));(case side2=>exact(Kd.R_reads' aH.out).2.1);rintro e cZ ⟨dA,rfl,ho0,hb⟩;refine⟨_,rfl,?_⟩;have cI:=mk_ (Kd.R_lower (Kd.R_new' ho0 (Kd.R_lt (by(with_reducible repeat(first|apply Kd.R_alloc|apply Kd.R_drewN|apply Kd.R_drew));exact(Kd.R_mono (rf_ aE (Kd.R_types aH.out aG.out (by decide)) (fun _ hk=>hk.2)) (fun _ h_=>h_.1))))) (below_size (bl_ HB)));replace aH:=mk_ (Kd.R_elder' (by(with_reducible repeat(first|apply Kd.R_alloc|apply Kd.R_drewN|apply Kd.R_drew));exact(Kd.R_mono (rf_ aE (Kd.R_types aH.out aG.out (by decide)) (fun _ hk=>hk.2)) (fun _ h_=>h_.1))) (Kd.R_base ho0) hb);replace aC:=bbf_ aC hb;replace aG:=mk_ (blk_below (g:=aE) (o:=.cells #[.string ((rd_T77 ((rd_T74 l0_3 aA).f0) aD).f0),.int .i64 ((rd_T77 ((rd_T74 l0_3 aA).f0) aD).f1),.bool ((rd_T77 ((rd_T74 l0_3 aA).f0) aD).f2)] 77 (0,0)) (pt_ aG) hb);replace HB:=bs_ HB hb;(try clear hb);(try clear hk);(try clear ho0)))
        go_roundg k2
        case measure=>have:=HK1.out;have:=HK2.out;omega
        case rel=>exact⟨(bA),(wrap64 (aD+1)),eq_,H',⟨by have:=HK1.out;have:=HK2.out;omega⟩,⟨by(with_reducible repeat(first|apply Kd.R_alloc|apply Kd.R_drewN|apply Kd.R_drew));exact Kd.R_mono cI.out (fun _ hk=>trivial)⟩,⟨bk_ aC⟩,⟨bl_ HB⟩⟩
       ·rw[if_neg aU]at H;have cC:decide (a1≤((rd_T77 ((rd_T74 l0_3 aA).f0) aD).f1))=false:=decide_eq_false aU;clear aU;have H':=mk_ H;clear H;obtain⟨aM,aN,cE,e502,aQ,aR,aT⟩:=aq_ (at_T77 bH.out aD)
        cases e502;(try replace aQ:=bt_ HB aQ);(try replace aR:=bt_ HB aR);(try replace aT:=bt_ HB aT)
        go_wp2_with (first|(refine gq_ 8 ?_;refine bx_ 8 #[.string (⟨#[]⟩:ByteArray),.int .i64 0,.bool false] 77 ?_;intro aE hg bD hbox hb;have aG:=mk_ (hbox);have cF:=gx_ hg HB;have cG:=gx_ hg HB;have aJ:=nx_ hg aC;have:=aJ.out;have bC:=ny_ hg aC;have:=bC.out;replace aH:=rb_ aH hb;replace aC:=bb_ aC hb;replace HB:=bs_ HB hb;clear hb hbox hg;have:=cz3_ aG;have:=fz3_ aG))
        go_roundg k2
        case measure=>have:=HK1.out;have:=HK2.out;omega
        case rel=>exact⟨(aK),(wrap64 (aD+1)),eq_,H',⟨by have:=HK1.out;have:=HK2.out;omega⟩,⟨by(with_reducible repeat(first|apply Kd.R_alloc|apply Kd.R_drewN|apply Kd.R_drew));exact Kd.R_mono (rf_ aE (Kd.R_types aH.out aG.out (by decide)) (fun _ hk=>hk.2)) (fun _ hk=>trivial)⟩,⟨fb_⟩,⟨bl_ HB⟩⟩
      ·clear H;have H:=h_;clear h_;have H':=mk_ H;clear H
       go_wp2
       go_roundg k2
       case measure=>have:=HK1.out;have:=HK2.out;omega
       case rel=>exact⟨(aK),(wrap64 (aA+1)),eq_,H',⟨by have:=HK1.out;have:=HK2.out;omega⟩,⟨rr_ aH⟩,⟨bk_ aC⟩,⟨bl_ HB⟩⟩
   ·clear H;have H:=h_;clear h_;obtain rfl:=Option.some.inj H;have:=cz7_ aC;have:=fz7_ aC
    go_wp2
    go_ret;exact⟨_,er_,by(with_reducible repeat(first|apply Kd.R_alloc|apply Kd.R_drewN|apply Kd.R_drew));exact aH.out,bl_ HB⟩
def rillmeterref15_put.l0:Nat→List (S77)→Int→List (S77)→Int→ByteArray→Int→Bool→Option ((List (S77)))
  |0,_,_,_,_,_,_,_=>none
  |k+1,a,b,c,d,e,f,g=>if d<(a.length:Int)then(if d=b then(if c.length<4398046511104 then(rillmeterref15_put.l0 k a b (c++[(⟨e,f,g⟩:S77)]) (wrap64 (d+1)) e f g)else(none))else(if 0≤d then(if c.length<4398046511104 then(rillmeterref15_put.l0 k a b (c++[(⟨(rd_T77 a d).f0,(rd_T77 a d).f1,(rd_T77 a d).f2⟩:S77)]) (wrap64 (d+1)) e f g)else(none))else(none)))else(some c)
def rillmeterref15_put.f (k:Nat)(l0:List (S77))(a1:Int)(a2_0:ByteArray)(a2_1:Int)(a2_2:Bool):Option ((List (S77))):=rillmeterref15_put.l0 k l0 a1 ([]:List (S77)) 0 a2_0 a2_1 a2_2
theorem rillmeterref15_put.mono_l:∀k,(∀y0 y1 y2 y3 y4 y5 y6,LeO (rillmeterref15_put.l0 k y0 y1 y2 y3 y4 y5 y6) (rillmeterref15_put.l0 (k+1) y0 y1 y2 y3 y4 y5 y6))
  |0=>fun _ _ _ _ _ _ _ r h=>by simp[rillmeterref15_put.l0]at h
  |k+1=>by
    have ih0:=rillmeterref15_put.mono_l k
    · intro y0 y1 y2 y3 y4 y5 y6
      unfold rillmeterref15_put.l0
      repeat' with_reducible first|exact ih0 .. |exact LeO.refl _|exact LeO.none _|refine LeO.ite ?_ ?_|refine LeO.bind ?_ (fun _=>?_)
theorem rillmeterref15_put.mono:∀a0 a1 a2 a3 a4 k,LeO (rillmeterref15_put.f k a0 a1 a2 a3 a4) (rillmeterref15_put.f (k+1) a0 a1 a2 a3 a4):=by
  intro a0 a1 a2 a3 a4 k
  have ih0:=rillmeterref15_put.mono_l k
  unfold rillmeterref15_put.f
  repeat' with_reducible first|exact ih0 .. |exact LeO.refl _|exact LeO.none _|refine LeO.ite ?_ ?_|refine LeO.bind ?_ (fun _=>?_)
theorem rillmeterref15_put.calls (k:Nat)(A0:Option Addr)(c0:Nat)(l0:List (S77))(a1:Int)(a2_0:ByteArray)(a2_1:Int)(a2_2:Bool)(r:List (S77))(w:World)(hr0:Kd.C k77 w A0 l0.length l0)(hc0:l0.length≤c0)(h:rillmeterref15_put.f k l0 a1 a2_0 a2_1 a2_2=some r):
    Calls Try.prog 49 #[.slice A0 l0.length c0,.int .i64 a1,.agg #[.string a2_0,.int .i64 a2_1,.bool a2_2]] w fun e w'=>∃v0_:Value,e=.returned (v0_)∧Kd.R k77 77 w' w.heap.size (fun _=>True) v0_ r∧Below w.heap.size w w':=by
 have hu77:=Try.underlying77;have HR0:=mk_ hr0;have HC0:=mk_ hc0;clear hr0 hc0;have HB:=mk_ (Below.refl w.heap.size w);have H:=h;clear h;unfold rillmeterref15_put.f at H;have H':=mk_ H;clear H
 go_enter Try.func49,Try.ntmps49
 go_wp2_with (first|(refine gq_ 5 ?_;refine bx_ 5 #[.string a2_0,.int .i64 a2_1,.bool a2_2] 77 ?_;intro aE hg w4 hbox hb;have aC:=mk_ (hbox);have bB:=gx_ hg HB;have bC:=gx_ hg HB;replace HB:=bs_ HB hb;clear hb hbox hg))
 go_loopg [7,8] k (fun kq v7 v8 w'=>∃(aD:List (S77))(aA:Int),v8=.int .i64 aA∧Aside0 (rillmeterref15_put.l0 kq l0 a1 aD aA a2_0 a2_1 a2_2=some r)∧Aside0 (kq≤k)∧Aside0 (Kd.R k77 77 w' w.heap.size (fun k_=>k_≠aE) v7 aD)∧Aside0 (w'.heap[aE]? =some (.cells #[.string a2_0,.int .i64 a2_1,.bool a2_2] 77 (0,0)))∧Aside0 (Below w.heap.size w w'))
 case atStart=>exact⟨(([]:List (S77))),(0),eq_,H',⟨Nat.le_refl _⟩,⟨by first|exact Kd.R_nil _ _ _ _ _|exact Kd.N_nil _ _ _ _ _|exact Kd.V_nil _ _ _ _ _|exact Kd.Q_nil _ _ _ _ _|exact Kd.S_nil _ _ _ _ _⟩,⟨bk_ aC⟩,⟨bl_ HB⟩⟩
 case round=>
  clear H';obtain⟨aD,aA,rfl,HA,HK1,aG,aC,HB⟩:=hrel
  cases gk with
  |zero=>exact absurd HA.out (by simp[rillmeterref15_put.l0])
  |succ k1=>
   have H:=HA.out;clear HA;simp only[rillmeterref15_put.l0]at H
   rcases ic_ H with⟨aR,h_⟩|⟨aR,h_⟩
   ·clear H;have H:=h_;clear h_
    by_cases c6:aA=a1
    ·rw[if_pos c6]at H;have aT:=beq_iff_eq.mpr c6;have aU:=bne_eq_false_iff_eq.mpr c6;clear c6;replace H:=ip_ H;obtain⟨c7,H⟩:=H;have aV:=mk_ c7;clear c7;obtain⟨y508,hy508⟩:∃y_:List (S77),y_=(aD++[(⟨a2_0,a2_1,a2_2⟩:S77)]):=⟨_,rfl⟩
     (try replace H:=(Option.bind_some _ _).symm.trans H);(try rw[←hy508]at H)
     have aW:=mk_ hy508;clear hy508;have H':=mk_ H;clear H;have:=cz3_ aC;have:=fz3_ aC
     go_wp2_with (first|((with_reducible refine gate_builtin (b:=.append) (xs:=#[.tmp 18,.tmp 20]) rfl ?_);at_builtin;refine Kd.R_append k77 (w0:=w) w.heap.size rfl (.tmp 18) (.tmp 20) 72 77 (.agg #[(.string ⟨#[]⟩),(.int .i64 0),(.bool false)]) 32 rfl Try.underlying72 info77 rfl (by decide) (by omega) u7 aD (⟨a2_0,a2_1,a2_2⟩:S77) [.string a2_0,.int .i64 a2_1,.bool a2_2] (fun k_=>k_≠aE) (fun _=>False) rfl rfl ?aP (fun _ hk=>hk.elim) ?aF ?aO ?aB ?aS ?aL ?_;(case aP=>exact k77_mkM _ _ _ (⟨a2_0,a2_1,a2_2⟩:S77));(case aB=>exact(bl_ HB));(case aF=>exact(fun k_ hk=>Kd.freshB (bk_ aC) k_ hk));(case aO=>exact(rk_ aG));(case aS=>exact(below_size (bl_ HB)));(case aL=>have:=aV.out;omega);intro bJ w9 ho hb hg hat;rw[←aW.out]at ho;have aX:=mk_ (ho);replace aC:=mk_ (blk_grown (bk_ aC) hg (Kd.R_away aG.out (fun _ hk=>hk)));replace HB:=mk_ (hb);clear aG;clear ho hb hg hat))
     go_roundg k1
     case measure=>have:=HK1.out;omega
     case rel=>exact⟨(y508),(wrap64 (aA+1)),eq_,H',⟨by have:=HK1.out;omega⟩,⟨rr_ aX⟩,⟨bk_ aC⟩,⟨bl_ HB⟩⟩
    ·rw[if_neg c6]at H;have aT:=beq_eq_false_iff_ne.mpr c6;have aU:=bne_iff_ne.mpr c6;replace H:=it_ H;obtain⟨bK,H⟩:=H;replace H:=ip_ H;obtain⟨aI,H⟩:=H;have aY:=mk_ aI;clear aI;obtain⟨y512,hy512⟩:∃y_:List (S77),y_=(aD++[(⟨(rd_T77 l0 aA).f0,(rd_T77 l0 aA).f1,(rd_T77 l0 aA).f2⟩:S77)]):=⟨_,rfl⟩
     (try replace H:=(Option.bind_some _ _).symm.trans H);(try rw[←hy512]at H)
     have aZ:=mk_ hy512;clear hy512;have H':=mk_ H;clear H;obtain⟨aJ,aK,bL,e511,aM,aN,aQ⟩:=aq_ (at_T77 HR0.out aA)
     cases e511;(try replace aM:=bt_ HB aM);(try replace aN:=bt_ HB aN);(try replace aQ:=bt_ HB aQ)
     go_wp2_with (first|((with_reducible refine gate_builtin (b:=.append) (xs:=#[.tmp 22,.tmp 27]) rfl ?_);at_builtin;refine Kd.R_append k77 (w0:=w) w.heap.size rfl (.tmp 22) (.tmp 27) 72 77 (.agg #[(.string ⟨#[]⟩),(.int .i64 0),(.bool false)]) 32 rfl Try.underlying72 info77 rfl (by decide) (by omega) u7 aD (⟨(rd_T77 l0 aA).f0,(rd_T77 l0 aA).f1,(rd_T77 l0 aA).f2⟩:S77) [.string ((rd_T77 l0 aA).f0),.int .i64 ((rd_T77 l0 aA).f1),.bool ((rd_T77 l0 aA).f2)] (fun k_=>k_≠aE) (fun _=>False) rfl rfl ?aP (fun _ hk=>hk.elim) ?aF ?aO ?aB ?aS ?aL ?_;(case aP=>exact k77_mkM _ _ _ (⟨(rd_T77 l0 aA).f0,(rd_T77 l0 aA).f1,(rd_T77 l0 aA).f2⟩:S77));(case aB=>exact(bl_ HB));(case aF=>exact(fun k_ hk=>Kd.freshB (bk_ aC) k_ hk));(case aO=>exact(rk_ aG));(case aS=>exact(below_size (bl_ HB)));(case aL=>have:=aY.out;omega);intro bM bN ho hb hg hat;rw[←aZ.out]at ho;have bA:=mk_ (ho);replace aC:=mk_ (blk_grown (bk_ aC) hg (Kd.R_away aG.out (fun _ hk=>hk)));replace HB:=mk_ (hb);clear aG;clear ho hb hg hat))
     go_roundg k1
     case measure=>have:=HK1.out;omega
     case rel=>exact⟨(y512),(wrap64 (aA+1)),eq_,H',⟨by have:=HK1.out;omega⟩,⟨rr_ bA⟩,⟨bk_ aC⟩,⟨bl_ HB⟩⟩
   ·clear H;have H:=h_;clear h_;obtain rfl:=Option.some.inj H
    go_wp2
    go_ret;exact⟨_,er_,by(with_reducible repeat(first|apply Kd.R_alloc|apply Kd.R_drewN|apply Kd.R_drew));exact Kd.R_mono aG.out (fun _ hk=>trivial),bl_ HB⟩
def rillmeterref11_capped.f (a0 a1:Int):Option (Int):=if a0>a1 then(some a1)else(some a0)
theorem rillmeterref11_capped.calls (a0 a1 r:Int)(w:World)(h:rillmeterref11_capped.f a0 a1=some r):
    Calls Try.prog 71 #[.int .i64 a0,.int .i64 a1] w fun e w'=>e=.returned (.int .i64 r)∧Drawn0 w w':=by
 have H:=h;clear h;unfold rillmeterref11_capped.f at H
 by_cases c3:a0>a1
 ·rw[if_pos c3]at H;have aA:decide (a1<a0)=true:=decide_eq_true c3;clear c3;obtain rfl:=Option.some.inj H
  go_enter Try.func71,Try.ntmps71
  go_wp2
  go_ret;exact⟨by first|rfl|(simp;done)|(simp[*];done),by repeat(first|exact Drawn0.refl _|apply Drawn0.step)⟩
 ·rw[if_neg c3]at H;have aA:decide (a1<a0)=false:=decide_eq_false c3;clear c3;obtain rfl:=Option.some.inj H
  go_enter Try.func71,Try.ntmps71
  go_wp2
  go_ret;exact⟨by first|rfl|(simp;done)|(simp[*];done),by repeat(first|exact Drawn0.refl _|apply Drawn0.step)⟩
mutual
def rillmeterref11_Add.l0:Nat→ByteArray→Int→List (List Int)→Int→Int→Int→List (List Int)→Option (Int × Int × (List (List Int)))
  |0,_,_,_,_,_,_,_=>none
  |k+1,a,b,c,d,e,g,h=>if d<(h.length:Int)then(if 0≤d then((rillmeterref11_Cell.f k e a d ((rd_L9 h d).length:Int)).bind fun t518=>(rillmeterref11_Add.l1 k a b c d ([]:List Int) t518 0 e g h))else(none))else(some (e,g,c))
def rillmeterref11_Add.l1:Nat→ByteArray→Int→List (List Int)→Int→List Int→Int→Int→Int→Int→List (List Int)→Option (Int × Int × (List (List Int)))
  |0,_,_,_,_,_,_,_,_,_,_=>none
  |k+1,a,b,c,d,e,g,h,i,j,l=>if 0≤d then(if d<(l.length:Int)then(if h<((rd_L9 l d).length:Int)then(if 0≤h then(if h=g then((rillmeterref11_capped.f (wrap64 ((rd (rd_L9 l d) h)+b)) j).bind fun t522=>(if e.length<17592186044416 then(rillmeterref11_Add.l1 k a b c d (e++[t522]) g (wrap64 (h+1)) i j l)else(none)))else(if e.length<17592186044416 then(rillmeterref11_Add.l1 k a b c d (e++[rd (rd_L9 l d) h]) g (wrap64 (h+1)) i j l)else(none)))else(none))else(if c.length<5864062014805 then(rillmeterref11_Add.l0 k a b (c++[e]) (wrap64 (d+1)) i j l)else(none)))else(none))else(none)
end
def rillmeterref11_Add.f (k:Nat)(a0_0 a0_1:Int)(l0_2:List (List Int))(a1:ByteArray)(a2:Int):Option (Int × Int × (List (List Int))):=rillmeterref11_Add.l0 k a1 a2 ([]:List (List Int)) 0 a0_0 a0_1 l0_2
theorem rillmeterref11_Add.mono_l:∀k,(∀y0 y1 y2 y3 y4 y5 y6,LeO (rillmeterref11_Add.l0 k y0 y1 y2 y3 y4 y5 y6) (rillmeterref11_Add.l0 (k+1) y0 y1 y2 y3 y4 y5 y6))∧(∀y0 y1 y2 y3 y4 y5 y6 y7 y8 y9,LeO (rillmeterref11_Add.l1 k y0 y1 y2 y3 y4 y5 y6 y7 y8 y9) (rillmeterref11_Add.l1 (k+1) y0 y1 y2 y3 y4 y5 y6 y7 y8 y9))
  |0=>⟨fun _ _ _ _ _ _ _ r h=>by simp[rillmeterref11_Add.l0]at h,fun _ _ _ _ _ _ _ _ _ _ r h=>by simp[rillmeterref11_Add.l1]at h⟩
  |k+1=>by
    obtain⟨ih0,ih1⟩:=rillmeterref11_Add.mono_l k
    refine⟨?_,?_⟩<;>intros
    all_goals first|unfold rillmeterref11_Add.l0|unfold rillmeterref11_Add.l1
    all_goals repeat' with_reducible first|exact ih0 .. |exact ih1 .. |exact rillmeterref11_Cell.mono .. |exact LeO.refl _|exact LeO.none _|refine LeO.ite ?_ ?_|refine LeO.bind ?_ (fun _=>?_)
theorem rillmeterref11_Add.mono:∀a0 a1 a2 a3 a4 k,LeO (rillmeterref11_Add.f k a0 a1 a2 a3 a4) (rillmeterref11_Add.f (k+1) a0 a1 a2 a3 a4):=by
  intro a0 a1 a2 a3 a4 k
  obtain⟨ih0,ih1⟩:=rillmeterref11_Add.mono_l k
  unfold rillmeterref11_Add.f
  repeat' with_reducible first|exact ih0 .. |exact ih1 .. |exact rillmeterref11_Cell.mono .. |exact LeO.refl _|exact LeO.none _|refine LeO.ite ?_ ?_|refine LeO.bind ?_ (fun _=>?_)
def rillmeterref11_Add.T6:Bool × List (List Nat × List Nat):=(true,[([],[]),([0],[0]),([],[]),([],[]),([],[]),([4],[4]),([],[]),([5,6],[5,6]),([7],[7]),([8],[8]),([1,2,3,9],[1,2,3,9]),([10,10,0,1,2,3,4,5,6,7,8,9,10],[10])])
def rillmeterref11_Add.B6:List Nat:=[0,1,0,0,0,16,0,112,240,496,1023,2047]
theorem rillmeterref11_Add.tab6:rtab .any (opsOf Try.f50 6)=rillmeterref11_Add.T6:=by kernel_rfl
theorem rillmeterref11_Add.bits6:waitsOk rillmeterref11_Add.T6.2 rillmeterref11_Add.B6=true:=by kernel_rfl
theorem rillmeterref11_Add.calls (k:Nat)(a0_0 a0_1:Int)(A0_2:Option Addr)(c0_2:Nat)(l0_2:List (List Int))(a1:ByteArray)(a2 r1 r2:Int)(r3:List (List Int))(w:World)(hr0_2:Kd.C (Kd.slice 3 (Kd.int .i64)) w A0_2 l0_2.length l0_2)(hc0_2:l0_2.length≤c0_2)(h:rillmeterref11_Add.f k a0_0 a0_1 l0_2 a1 a2=some (r1,r2,r3)):
    Calls Try.prog 50 #[.agg #[.int .u64 a0_0,.int .i64 a0_1,.slice A0_2 l0_2.length c0_2],.string a1,.int .i64 a2] w fun e w'=>∃v2_:Value,e=.returned (.agg #[.int .u64 r1,.int .i64 r2,v2_])∧Kd.S (Kd.slice 3 (Kd.int .i64)) 57 w' w.heap.size (fun _=>True) v2_ r3∧Below w.heap.size w w':=by
 have hu30:=Try.underlying30;have bD:=mk_ hr0_2;have dF:=mk_ hc0_2;clear hr0_2 hc0_2;have HB:=mk_ (Below.refl w.heap.size w);have H:=h;clear h;unfold rillmeterref11_Add.f at H;have H':=mk_ H;clear H
 go_enter Try.func50,Try.ntmps50
 go_wp2_with (first|(refine gq_ 3 ?_;refine bx_ 3 #[.int .u64 a0_0,.int .i64 a0_1,.slice A0_2 l0_2.length c0_2] 30 ?_;intro aH hg w4 hbox hb;have aA:=mk_ (hbox);have dG:=gx_ hg HB;have dH:=gx_ hg HB;replace HB:=bs_ HB hb;clear hb hbox hg)|(refine gq_ 6 ?_;refine bx_ 6 #[.int .u64 0,.int .i64 0,.slice none 0 0] 30 ?_;intro aU hg w5 hbox hb;have aD:=mk_ (hbox);have dI:=gx_ hg HB;have dJ:=gx_ hg HB;have bH:=nx_ hg aA;have:=bH.out;have bE:=ny_ hg aA;have:=bE.out;replace aA:=bb_ aA hb;replace HB:=bs_ HB hb;clear hb hbox hg))
 go_loopg [7,8] k (fun kq v7 v8 w'=>∃(aI:List (List Int))(aC:Int),v8=.int .i64 aC∧Aside0 (rillmeterref11_Add.l0 kq a1 a2 aI aC a0_0 a0_1 l0_2=some (r1,r2,r3))∧Aside0 (kq≤k)∧Aside0 (Kd.S (Kd.slice 3 (Kd.int .i64)) 57 w' w.heap.size (fun _=>True) v7 aI)∧Aside0 (w'.heap[aH]? =some (.cells #[.int .u64 a0_0,.int .i64 a0_1,(.slice A0_2 l0_2.length c0_2)] 30 (0,0)))∧Aside0 (w'.heap[aU]? =some (.cells #[.int .u64 0,.int .i64 0,(.slice none 0 0)] 30 (0,0)))∧Aside0 (Below w.heap.size w w'))
 case atStart=>exact⟨(([]:List (List Int))),(0),eq_,H',⟨Nat.le_refl _⟩,⟨by first|(with_reducible first|exact Kd.N_nil _ _ _ _ _|exact Kd.V_nil _ _ _ _ _|exact Kd.S_nil _ _ _ _ _)|exact Kd.Q_nil _ _ _ _ _|exact Kd.R_nil _ _ _ _ _⟩,⟨bk_ aA⟩,⟨bk_ aD⟩,⟨bl_ HB⟩⟩
 case round=>
  clear H';obtain⟨aI,aC,rfl,HA,HK1,aG,aA,aD,HB⟩:=hrel
  cases gk with
  |zero=>exact absurd HA.out (by simp[rillmeterref11_Add.l0])
  |succ k1=>
   have H:=HA.out;clear HA;simp only[rillmeterref11_Add.l0]at H
   rcases ic_ H with⟨bY,h_⟩|⟨bY,h_⟩
   ·clear H;have H:=h_;clear h_;replace H:=it_ H;obtain⟨cG,H⟩:=H;replace H:=bi_ H;obtain⟨aN,A8,H⟩:=H;have H':=mk_ H;clear H;have:=cz3_ aA;have:=fz3_ aA
    try go_wp2
    replace aG:=mk_ (Kd.S_drew aG.out);replace aA:=bd_ aA;replace aD:=bd_ aD;replace HB:=bw_ HB;obtain⟨bL,bM,aQ,A517_0,c517_0,e517,bF,cA,hi517_0⟩:=aq_ (at_L9 bD.out aC);have bN:=bF
    cases e517;(try replace bF:=bt_ HB bF);have cN:=mk_ hi517_0;have dM:=mk_ cA;clear hi517_0 cA;generalize hD_:wr.drew=dN at aG aA aD HB cN bF;refine sx_ (n:=12) (ds:=[]) hD_ (cw3_ aA (bt_ HB bN)) (fun hHeld=>?_);refine with_tabW rillmeterref11_Add.tab6 rillmeterref11_Add.bits6 (fun HT_ HW_=>?_);clear hD_;refine p1_ 0 1 ?_
    refine p1_ 2 5 ?_;refine p1_ 3 13 ?_;refine p1_ 4 29 ?_;refine p1_ 6 93 ?_;refine t1_ 1 95 ?_;refine t1_ 5 127 ?_;refine p1_ 7 255 ?_;refine t1_ 8 511 ?_;refine p1_ 9 1023 ?_;refine oq_ 10 (some 30) 12 2047 HT_ (fun K hK=>?_);refine gt_ Try.func25 (rillmeterref11_Cell.calls k1 a0_0 a1 aC ((rd_L9 l0_2 aC).length:Int) aN _ A8.out) ?_
    intro dO hb;replace aG:=ss_ aG hb;replace aA:=bb_ aA hb;replace aD:=bb_ aD hb;replace HB:=bs_ HB hb;(try clear hb);refine hK.out _ _ hl_ (fun hHeld=>?_);clear hK K;refine nm_ 30 ?_;refine p1_ 11 4095 ?_;refine dq_ HT_ ?_
    try go_wp2
    go_loopg [9,11] k1 (fun kq v9 cO w'=>∃(aJ:List Int)(aE:Int),cO=.int .i64 aE∧Aside0 (rillmeterref11_Add.l1 kq a1 a2 aI aC aJ aN aE a0_0 a0_1 l0_2=some (r1,r2,r3))∧Aside0 (kq≤k1)∧Aside0 (Kd.S (Kd.slice 3 (Kd.int .i64)) 57 w' w.heap.size (fun k_=>some k_≠(v9:Value).ownBlock) u7 aI)∧Aside0 (Kd.R (Kd.int .i64) 3 w' w.heap.size (fun _=>True) v9 aJ)∧Aside0 (w'.heap[aH]? =some (.cells #[.int .u64 a0_0,.int .i64 a0_1,(.slice (some aQ) l0_2.length c0_2)] 30 (0,0)))∧Aside0 (w'.heap[aU]? =some (.cells #[.int .u64 0,.int .i64 0,(.slice none 0 0)] 30 (0,0)))∧Aside0 (Below w.heap.size w w'))
    case atStart=>exact⟨(([]:List Int)),(0),eq_,H',⟨Nat.le_refl _⟩,⟨by(with_reducible repeat(first|apply Kd.S_alloc|apply Kd.S_drewN|apply Kd.S_drew));exact Kd.S_mono aG.out (fun _ hk=>(by simp[Value.ownBlock]))⟩,⟨by first|exact Kd.R_nil _ _ _ _ _|exact Kd.N_nil _ _ _ _ _|exact Kd.V_nil _ _ _ _ _|exact Kd.Q_nil _ _ _ _ _|exact Kd.S_nil _ _ _ _ _⟩,⟨bk_ aA⟩,⟨bk_ aD⟩,⟨bl_ HB⟩⟩
    case round=>
     clear H';(try clear bY);(try clear cG);(try clear bF);(try clear bL);(try clear bM);obtain⟨aJ,aE,rfl,HA,HK2,aG,aM,aA,aD,HB⟩:=hrel
     cases gk with
     |zero=>exact absurd HA.out (by simp[rillmeterref11_Add.l1])
     |succ k2=>
      have H:=HA.out;clear HA;simp only[rillmeterref11_Add.l1]at H;replace H:=it_ H;obtain⟨dP,H⟩:=H;replace H:=it_ H;obtain⟨dQ,H⟩:=H
      rcases ic_ H with⟨cP,h_⟩|⟨cP,h_⟩
      ·clear H;have H:=h_;clear h_;replace H:=it_ H;obtain⟨dR,H⟩:=H
       by_cases aX:aE=aN
       ·rw[if_pos aX]at H;have cQ:=beq_iff_eq.mpr aX;have cR:=bne_eq_false_iff_eq.mpr aX;clear aX;replace H:=bi_ H;obtain⟨bI,cS,H⟩:=H;replace H:=ip_ H;obtain⟨bR,H⟩:=H;have cT:=mk_ bR;clear bR;obtain⟨y523,hy523⟩:∃y_:List Int,y_=(aJ++[bI]):=⟨_,rfl⟩
        (try replace H:=(Option.bind_some _ _).symm.trans H);(try rw[←hy523]at H)
        have cU:=mk_ hy523;clear hy523;have H':=mk_ H;clear H;have:=cz3_ aA;have:=fz3_ aA;obtain⟨aR,aT,bJ,A519_0,c519_0,e519,aK,aW,hi519_0⟩:=aq_ (at_L9 bD.out aC);obtain rfl:aQ=bJ:=(by injection e519);(try replace aK:=bt_ HB aK);have cC:=mk_ hi519_0;have cD:=mk_ aW;clear hi519_0 aW;have aY:0≤(aC:Int):=od_;have aZ:aC<(l0_2.length:Int):=od_
        obtain⟨bU,A520_0,c520_0,e520,aV,bK,hi520_0⟩:=at_L9 bD.out aC aY aZ;obtain rfl:aQ=bU:=(by injection e520);(try replace aV:=bt_ HB aV);have bV:=mk_ hi520_0;have cV:=mk_ bK;clear hi520_0 bK;replace aY:=eq_true aY;replace aZ:=eq_true aZ;have ea_:=Option.some.inj (aK.symm.trans aV)
        injection ea_ with ea_ en_ ec_
        subst ea_;subst ec_;clear en_;obtain⟨bA,bB,cW,e521,bC⟩:=aq_ (Kd.at_int bV.out aE)
        cases e521;(try replace bC:=bt_ HB bC)
        go_wp2_with (first|(refine gk_ 71 ?_;refine gd_ (some 57) Try.func71 (rillmeterref11_capped.calls (wrap64 ((rd (rd_L9 l0_2 aC) aE)+a2)) a0_1 bI _ cS.out) ?_;rintro w' ⟨nd,rfl⟩)|((with_reducible refine gate_builtin (b:=.append) (xs:=#[.tmp 58,.tmp 60]) rfl ?_);at_builtin;refine Kd.R_append (Kd.int .i64) (w0:=w) w.heap.size rfl (.tmp 58) (.tmp 60) 57 3 (.int .i64 0) 8 rfl Try.underlying57 info3 rfl (by decide) (by omega) u9 aJ bI [.int .i64 bI] (fun _=>True) (fun _=>False) rfl rfl ?aP (fun _ hk=>hk.elim) ?aF ?aO ?aB ?aS ?aL ?_;(case aP=>exact rfl);(case aB=>exact(bl_ HB));(case aF=>exact(fun _ _=>trivial));(case aO=>exact(rk_ aM));(case aS=>exact(below_size (bl_ HB)));(case aL=>have:=cT.out;omega);intro fA fB ho hb hg hat;rw[←cU.out]at ho;have cX:=mk_ (ho);replace aG:=mk_ (Kd.S_after (ok:=(fun _=>True)) (sl_ (Kd.S_mono aG.out (fun _ hk=>⟨trivial,hk⟩))) hg hat);replace aA:=mk_ (blk_grown (bk_ aA) hg (Kd.R_ne aM.out aA.out (by decide)));replace aD:=mk_ (blk_grown (bk_ aD) hg (Kd.R_ne aM.out aD.out (by decide)));replace HB:=mk_ (hb);clear aM;clear ho hb hg hat))
        go_roundg k2
        case measure=>have:=HK1.out;have:=HK2.out;omega
        case rel=>exact⟨(y523),(wrap64 (aE+1)),eq_,H',⟨by have:=HK1.out;have:=HK2.out;omega⟩,⟨by(with_reducible repeat(first|apply Kd.S_alloc|apply Kd.S_drewN|apply Kd.S_drew));exact Kd.S_mono aG.out (fun _ hk=>hk.2)⟩,⟨rr_ cX⟩,⟨bk_ aA⟩,⟨bk_ aD⟩,⟨bl_ HB⟩⟩
       ·rw[if_neg aX]at H;have cQ:=beq_eq_false_iff_ne.mpr aX;have cR:=bne_iff_ne.mpr aX;replace H:=ip_ H;obtain⟨bS,H⟩:=H;have cY:=mk_ bS;clear bS;obtain⟨y526,hy526⟩:∃y_:List Int,y_=(aJ++[rd (rd_L9 l0_2 aC) aE]):=⟨_,rfl⟩
        (try replace H:=(Option.bind_some _ _).symm.trans H);(try rw[←hy526]at H)
        have cZ:=mk_ hy526;clear hy526;have H':=mk_ H;clear H;have:=cz3_ aA;have:=fz3_ aA;obtain⟨aR,aT,bJ,A519_0,c519_0,e519,aK,aW,hi519_0⟩:=aq_ (at_L9 bD.out aC);obtain rfl:aQ=bJ:=(by injection e519);(try replace aK:=bt_ HB aK);have cC:=mk_ hi519_0;have cD:=mk_ aW;clear hi519_0 aW;have aY:0≤(aC:Int):=od_;have aZ:aC<(l0_2.length:Int):=od_
        obtain⟨bU,A520_0,c520_0,e520,aV,bK,hi520_0⟩:=at_L9 bD.out aC aY aZ;obtain rfl:aQ=bU:=(by injection e520);(try replace aV:=bt_ HB aV);have bV:=mk_ hi520_0;have cV:=mk_ bK;clear hi520_0 bK;replace aY:=eq_true aY;replace aZ:=eq_true aZ;have ea_:=Option.some.inj (aK.symm.trans aV)
        injection ea_ with ea_ en_ ec_
        subst ea_;subst ec_;clear en_;obtain⟨bA,bB,cW,e521,bC⟩:=aq_ (Kd.at_int bV.out aE)
        cases e521;(try replace bC:=bt_ HB bC)
        go_wp2_with (first|((with_reducible refine gate_builtin (b:=.append) (xs:=#[.tmp 58,.tmp 60]) rfl ?_);at_builtin;refine Kd.R_append (Kd.int .i64) (w0:=w) w.heap.size rfl (.tmp 58) (.tmp 60) 57 3 (.int .i64 0) 8 rfl Try.underlying57 info3 rfl (by decide) (by omega) u9 aJ (rd (rd_L9 l0_2 aC) aE) [.int .i64 (rd (rd_L9 l0_2 aC) aE)] (fun _=>True) (fun _=>False) rfl rfl ?aP (fun _ hk=>hk.elim) ?aF ?aO ?aB ?aS ?aL ?_;(case aP=>exact rfl);(case aB=>exact(bl_ HB));(case aF=>exact(fun _ _=>trivial));(case aO=>exact(rk_ aM));(case aS=>exact(below_size (bl_ HB)));(case aL=>have:=cY.out;omega);intro fK fL ho hb hg hat;rw[←cZ.out]at ho;have dA:=mk_ (ho);replace aG:=mk_ (Kd.S_after (ok:=(fun _=>True)) (sl_ (Kd.S_mono aG.out (fun _ hk=>⟨trivial,hk⟩))) hg hat);replace aA:=mk_ (blk_grown (bk_ aA) hg (Kd.R_ne aM.out aA.out (by decide)));replace aD:=mk_ (blk_grown (bk_ aD) hg (Kd.R_ne aM.out aD.out (by decide)));replace HB:=mk_ (hb);clear aM;clear ho hb hg hat))
        go_roundg k2
        case measure=>have:=HK1.out;have:=HK2.out;omega
        case rel=>exact⟨(y526),(wrap64 (aE+1)),eq_,H',⟨by have:=HK1.out;have:=HK2.out;omega⟩,⟨by(with_reducible repeat(first|apply Kd.S_alloc|apply Kd.S_drewN|apply Kd.S_drew));exact Kd.S_mono aG.out (fun _ hk=>hk.2)⟩,⟨rr_ dA⟩,⟨bk_ aA⟩,⟨bk_ aD⟩,⟨bl_ HB⟩⟩
      ·clear H;have H:=h_;clear h_;replace H:=ip_ H;obtain⟨bT,H⟩:=H;have dB:=mk_ bT;clear bT;obtain⟨y529,hy529⟩:∃y_:List (List Int),y_=(aI++[aJ]):=⟨_,rfl⟩
       (try replace H:=(Option.bind_some _ _).symm.trans H);(try rw[←hy529]at H)
       have dC:=mk_ hy529;clear hy529;have H':=mk_ H;clear H;have:=cz3_ aA;have:=fz3_ aA;obtain⟨aR,aT,bJ,A519_0,c519_0,e519,aK,aW,hi519_0⟩:=aq_ (at_L9 bD.out aC);obtain rfl:aQ=bJ:=(by injection e519);(try replace aK:=bt_ HB aK);have cC:=mk_ hi519_0;have cD:=mk_ aW;clear hi519_0 aW;obtain⟨cE,cF,eo31⟩:=Kd.R_slice aM.out;subst eo31
       go_wp2_with (first|((with_reducible refine gate_builtin (b:=.append) (xs:=#[.tmp 62,.tmp 64]) rfl ?_);at_builtin;refine Kd.S_append (Kd.slice 3 (Kd.int .i64)) (w0:=w) w.heap.size rfl (.tmp 62) (.tmp 64) 24 57 (.slice none 0 0) 24 rfl Try.underlying24 info57 rfl (by decide) (by omega) u7 aI aJ [.slice cE aJ.length cF] (fun _=>True) (fun k_=>some k_=(.slice cE aJ.length cF:Value).ownBlock) rfl rfl ?aP (fun k_ dD=>((Kd.R_mono (ok':=fun k_=>((fun _=>True)) k_∧some k_≠(u7:Value).ownBlock) (Kd.R_apart' (aM.out) (Kd.S_typed aG.out) (by decide)) (fun k_ hk=>⟨trivial,hk.2⟩))).1 k_ dD.symm) ?aF ?aO ?aB ?aS ?aL ?_;(case aP=>exact Kd.M_row (Kd.R_mono (Kd.R_tight rfl (Kd.R_mono (ok':=fun k_=>((fun _=>True)) k_∧some k_≠(u7:Value).ownBlock) (Kd.R_apart' (aM.out) (Kd.S_typed aG.out) (by decide)) (fun k_ hk=>⟨trivial,hk.2⟩))) (fun _ h_=>h_)));(case aB=>exact(bl_ HB));(case aF=>exact(fun _ _=>trivial));(case aO=>exact(sl_ (Kd.S_mono aG.out (fun k_ hk=>⟨trivial,fun e_=>hk e_⟩))));(case aS=>exact(below_size (bl_ HB)));(case aL=>have:=dB.out;omega);intro fU fV ho hb hg hat;rw[←dC.out]at ho;have dE:=mk_ (ho);replace aA:=mk_ (blk_grown (bk_ aA) hg (Kd.S_ne aG.out aA.out (by decide)));replace aD:=mk_ (blk_grown (bk_ aD) hg (Kd.S_ne aG.out aD.out (by decide)));replace HB:=mk_ (hb);clear aG;clear aM;clear ho hb hg hat))
       go_roundg k2
       case measure=>have:=HK1.out;have:=HK2.out;omega
       case rel=>exact⟨(y529),(wrap64 (aC+1)),eq_,H',⟨by have:=HK1.out;have:=HK2.out;omega⟩,⟨sr_ dE⟩,⟨bk_ aA⟩,⟨bk_ aD⟩,⟨bl_ HB⟩⟩
   ·clear H;have H:=h_;clear h_;simp only[Option.some.injEq,Prod.mk.injEq]at H;obtain⟨rfl,rfl,rfl⟩:=H;have:=cz3_ aA;have:=fz3_ aA;obtain⟨bW,bX,eo34⟩:=Kd.S_slice aG.out;subst eo34;have:=cz3_ aD;have:=fz3_ aD
    go_wp2
    refine bodyPost_ret (results_cell_row rfl _ _ aU 30 #[.int .u64 a0_0,.int .i64 a0_1,.slice bW aI.length bX] (0,0) _ rfl (pu_ aD) Try.underlying30 rfl (by kernel_rfl)) rfl ?_
    exact⟨_,er_,by(with_reducible repeat(first|apply Kd.S_alloc|apply Kd.S_drewN|apply Kd.S_drew));exact Kd.S_mono (Kd.S_far (p:=⟨aU,2,none⟩) (Kd.S_far (p:=⟨aU,1,none⟩) (Kd.S_far (p:=⟨aU,0,none⟩) (sf_ aH (Kd.S_types (Kd.S_types aG.out aA.out (by decide)) aD.out (by decide)) (fun _ hk=>hk.1.2)) (fun _ hk=>hk.2) (.int .u64 a0_0)) (fun _ hk=>hk.2) (.int .i64 a0_1)) (fun _ hk=>hk.2) (.slice bW aI.length bX)) (fun _ hk=>trivial),bl_ HB⟩
end Go.Proofs.Ytljmjjeghebdpaa.PElasticTurns
