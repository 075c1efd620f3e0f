/- Functions, each as a plain function, with the proof that a call comes to its answer. Condition of each: the arguments read as the data that it names, and the plain function has an answer. -/
import Derived.Test.YtljmjjeghebdpaaPElasticTurnsx0
import Derived.Test.YtljmjjeghebdpaaPElasticTurnsx9
import Derived.Test.YtljmjjeghebdpaaShort
import Derived.Lib.SliceRun
import Derived.Test.YtljmjjeghebdpaaPressMore
namespace Go.Proofs.Ytljmjjeghebdpaa.PElasticTurns
open Go.RowKit Go.Proofs.YtljmjjeghebdpaaW.PrintWords Go.Proofs.YtljmjjeghebdpaaW.PrintLast Go.Proofs.YtljmjjeghebdpaaW.PrintMore Go.Proofs.Ytljmjjeghebdpaa.Short Go.Proofs.Ytljmjjeghebdpaa.Press Go.Proofs.Ytljmjjeghebdpaa.PressMore
set_option maxHeartbeats 80000000
set_option maxRecDepth 100000
attribute [local go_sem] max2_int min2_int max_two min_two max_three min_three max_four min_four
set_option linter.unusedVariables false
set_option linter.unusedSimpArgs false
def rillmeterref01_Of.f (a0:Int):Option (Int):=some (Int.tmod a0 2305843009213693951)
theorem rillmeterref01_Of.calls (a0 r:Int)(w:World)(h:rillmeterref01_Of.f a0=some r):
    Calls Try.prog 81 #[.int .u64 a0] w fun e w'=>e=.returned (.int .u64 r)∧Drawn0 w w':=by
 have H:=h;clear h;unfold rillmeterref01_Of.f at H;obtain rfl:=Option.some.inj H
 go_enter Try.func81,Try.ntmps81
 go_wp2
 go_ret;exact⟨by first|rfl|(simp;done)|(simp[*];done),by repeat(first|exact Drawn0.refl _|apply Drawn0.step)⟩
mutual
def rillmeterref02_words.l0:Nat→ByteArray→Option (List Int)
  |0,_=>none
  |k+1,a=>if((a.size:Int)%4)=0 then(rillmeterref02_words.l1 k a ([]:List Int) 0)else((some (([0]:List Int):List Int)).bind fun y438=>(if a.size+(strOfNums y438).size≤9223372036854775807 then(rillmeterref02_words.l0 k (a++(strOfNums y438)))else(none)))
def rillmeterref02_words.l1:Nat→ByteArray→List Int→Int→Option (List Int)
  |0,_,_,_=>none
  |k+1,a,b,c=>if c<(a.size:Int)then(if 0≤c then(if 0≤(wrap64 (c+1))then(if(wrap64 (c+1))<(a.size:Int)then(if 0≤(wrap64 (c+2))then(if(wrap64 (c+2))<(a.size:Int)then(if 0≤(wrap64 (c+3))then(if(wrap64 (c+3))<(a.size:Int)then(if b.length<17592186044416 then(rillmeterref02_words.l1 k a (b++[IntKind.u64.wrap ((IntKind.u64.wrap ((IntKind.u64.wrap ((IntKind.u64.wrap ((IntKind.u64.wrap (bt a c))*16777216))+(IntKind.u64.wrap ((IntKind.u64.wrap (bt a (wrap64 (c+1))))*65536))))+(IntKind.u64.wrap ((IntKind.u64.wrap (bt a (wrap64 (c+2))))*256))))+(IntKind.u64.wrap (bt a (wrap64 (c+3)))))]) (wrap64 (c+4)))else(none))else(none))else(none))else(none))else(none))else(none))else(none))else(none))else(some b)
end
def rillmeterref02_words.f (k:Nat)(a0:ByteArray):Option (List Int):=rillmeterref02_words.l0 k a0
theorem rillmeterref02_words.mono_l:∀k,(∀y0,LeO (rillmeterref02_words.l0 k y0) (rillmeterref02_words.l0 (k+1) y0))∧(∀y0 y1 y2,LeO (rillmeterref02_words.l1 k y0 y1 y2) (rillmeterref02_words.l1 (k+1) y0 y1 y2))
  |0=>⟨fun _ r h=>by simp[rillmeterref02_words.l0]at h,fun _ _ _ r h=>by simp[rillmeterref02_words.l1]at h⟩
  |k+1=>by
    obtain⟨ih0,ih1⟩:=rillmeterref02_words.mono_l k
    refine⟨?_,?_⟩<;>intros
    all_goals first|unfold rillmeterref02_words.l0|unfold rillmeterref02_words.l1
    all_goals repeat' with_reducible first|exact ih0 .. |exact ih1 .. |exact LeO.refl _|exact LeO.none _|refine LeO.ite ?_ ?_|refine LeO.bind ?_ (fun _=>?_)
theorem rillmeterref02_words.mono:∀a0 k,LeO (rillmeterref02_words.f k a0) (rillmeterref02_words.f (k+1) a0):=by
  intro a0 k
  obtain⟨ih0,ih1⟩:=rillmeterref02_words.mono_l k
  unfold rillmeterref02_words.f
  repeat' with_reducible first|exact ih0 .. |exact ih1 .. |exact LeO.refl _|exact LeO.none _|refine LeO.ite ?_ ?_|refine LeO.bind ?_ (fun _=>?_)
def rillmeterref02_words.T7:Bool × List (List Nat × List Nat):=(true,[([],[]),([],[]),([],[]),([1,2],[1,2]),([3],[3]),([4],[4]),([],[]),([],[]),([7],[7]),([6,8],[6,8]),([9],[9]),([10],[10]),([5,11],[5,11]),([],[]),([],[]),([14],[14]),([13,15],[13,15]),([16],[16]),([17],[17]),([12,18],[12,18]),([],[]),([],[]),([21],[21]),([20,22],[20,22]),([23],[23]),([19,24],[19,24]),([25],[25]),([0,26],[0,26]),([27,27,0,1,2,3,4,5,6,7,8,9,10,11,12,13,14,15,16,17,18,19,20,21,22,23,24,25,26,27],[0,27])])
def rillmeterref02_words.B7:List Nat:=[0,0,0,6,14,30,0,0,128,448,960,1984,4094,0,0,16384,57344,122880,253952,524286,0,0,2097152,7340032,15728640,33554430,67108862,134217727,268435455]
theorem rillmeterref02_words.tab7:rtab .any (opsOf Try.f82 7)=rillmeterref02_words.T7:=by kernel_rfl
theorem rillmeterref02_words.bits7:waitsOk rillmeterref02_words.T7.2 rillmeterref02_words.B7=true:=by kernel_rfl
theorem rillmeterref02_words.calls (k:Nat)(a0:ByteArray)(r:List Int)(w:World)(h:rillmeterref02_words.f k a0=some r):
    Calls Try.prog 82 #[.string a0] w fun e w'=>∃v0_:Value,e=.returned (v0_)∧Kd.R (Kd.int .u64) 22 w' w.heap.size (fun _=>True) v0_ r∧Below w.heap.size w w':=by
 have HB:=mk_ (Below.refl w.heap.size w);have H:(rillmeterref02_words.l0 k a0)=some r:=h;clear h;have H':=mk_ H;clear H
 go_enter Try.func82,Try.ntmps82
 go_wp2
 go_loopg [0] k (fun kq v0 w'=>∃(aA:ByteArray),v0=.string aA∧Aside0 (rillmeterref02_words.l0 kq aA=some r)∧Aside0 (kq≤k)∧Aside0 (Below w.heap.size w w'))
 case atStart=>exact⟨(a0),eq_,H',⟨Nat.le_refl _⟩,⟨bl_ HB⟩⟩
 case round=>
  clear H';obtain⟨aA,rfl,HA,HK1,HB⟩:=hrel
  cases gk with
  |zero=>exact absurd HA.out (by simp[rillmeterref02_words.l0])
  |succ k1=>
   have H:=HA.out;clear HA;simp only[rillmeterref02_words.l0]at H
   by_cases c2:((aA.size:Int)%4)=0
   ·rw[if_pos c2]at H;have aN:=beq_iff_eq.mpr c2;have aQ:=bne_eq_false_iff_eq.mpr c2;clear c2;have H':=mk_ H;clear H
    go_wp2
    go_loopg [3,4] k1 (fun kq v3 v4 w'=>∃(aD:List Int)(aC:Int),v4=.int .i64 aC∧Aside0 (rillmeterref02_words.l1 kq aA aD aC=some r)∧Aside0 (kq≤k1)∧Aside0 (Kd.R (Kd.int .u64) 22 w' w.heap.size (fun _=>True) v3 aD)∧Aside0 (Below w.heap.size w w'))
    case atStart=>exact⟨(([]:List Int)),(0),eq_,H',⟨Nat.le_refl _⟩,⟨by first|exact Kd.R_nil _ _ _ _ _|exact Kd.N_nil _ _ _ _ _|exact Kd.V_nil _ _ _ _ _|exact Kd.Q_nil _ _ _ _ _|exact Kd.S_nil _ _ _ _ _⟩,⟨bl_ HB⟩⟩
    case round=>
     clear H';(try clear c2);(try clear aN);(try clear aQ);obtain⟨aD,aC,rfl,HA,HK2,aE,HB⟩:=hrel
     cases gk with
     |zero=>exact absurd HA.out (by simp[rillmeterref02_words.l1])
     |succ k2=>
      have H:=HA.out;clear HA;simp only[rillmeterref02_words.l1]at H
      rcases ic_ H with⟨aX,h_⟩|⟨aX,h_⟩
      ·clear H;have H:=h_;clear h_;replace H:=it_ H;obtain⟨bC,H⟩:=H;obtain⟨ji6,hji6⟩:∃j_:Int,(wrap64 (aC+1))=j_:=⟨_,rfl⟩
       (first|rw[hji6]at H|simp only[hji6]at H)
       have hji6w:(IntKind.i64.wrap (aC+1))=ji6:=(i64_w _).trans hji6;replace H:=it_ H;obtain⟨bD,H⟩:=H;replace H:=it_ H;obtain⟨bE,H⟩:=H;obtain⟨ji10,hji10⟩:∃j_:Int,(wrap64 (aC+2))=j_:=⟨_,rfl⟩
       (first|rw[hji10]at H|simp only[hji10]at H)
       have hji10w:(IntKind.i64.wrap (aC+2))=ji10:=(i64_w _).trans hji10;replace H:=it_ H;obtain⟨bF,H⟩:=H;replace H:=it_ H;obtain⟨bG,H⟩:=H;obtain⟨ji14,hji14⟩:∃j_:Int,(wrap64 (aC+3))=j_:=⟨_,rfl⟩
       (first|rw[hji14]at H|simp only[hji14]at H)
       have hji14w:(IntKind.i64.wrap (aC+3))=ji14:=(i64_w _).trans hji14;replace H:=it_ H;obtain⟨bH,H⟩:=H;replace H:=it_ H;obtain⟨bI,H⟩:=H;replace H:=ip_ H;obtain⟨aM,H⟩:=H;have aY:=mk_ aM;clear aM;obtain⟨y441,hy441⟩:∃y_:List Int,y_=(aD++[IntKind.u64.wrap ((IntKind.u64.wrap ((IntKind.u64.wrap ((IntKind.u64.wrap ((IntKind.u64.wrap (bt aA aC))*16777216))+(IntKind.u64.wrap ((IntKind.u64.wrap (bt aA (ji6)))*65536))))+(IntKind.u64.wrap ((IntKind.u64.wrap (bt aA (ji10)))*256))))+(IntKind.u64.wrap (bt aA (ji14))))]):=⟨_,rfl⟩
       (try replace H:=(Option.bind_some _ _).symm.trans H);(try rw[←hy441]at H)
       have aZ:=mk_ hy441;clear hy441;have H':=mk_ H;clear H
       try go_wp2
       replace aE:=mk_ (Kd.R_drew aE.out);replace HB:=bw_ HB;have p5:0≤(aC:Int):=od_;have q5:aC<(aA.size:Int):=od_;have hx5:=bt_at aA aC;replace p5:=eq_true p5;replace q5:=eq_true q5;have p9:0≤((ji6):Int):=od_;have q9:(ji6)<(aA.size:Int):=od_;have hx9:=bt_at aA (ji6);replace p9:=eq_true p9;replace q9:=eq_true q9;have aR:0≤((ji10):Int):=od_;have aT:(ji10)<(aA.size:Int):=od_;have hx13:=bt_at aA (ji10);replace aR:=eq_true aR;replace aT:=eq_true aT;have aU:0≤((ji14):Int):=od_;have aV:(ji14)<(aA.size:Int):=od_;have hx17:=bt_at aA (ji14);replace aU:=eq_true aU;replace aV:=eq_true aV
       refine start_ (n:=29) (S:=fun w'=>True) (ds:=[]) (mB 29 0) (by kernel_rfl) rfl rfl trivial (fun hHeld=>?_);refine with_tabW rillmeterref02_words.tab7 rillmeterref02_words.bits7 (fun HT_ HW_=>?_);generalize wr.drew=bJ at aE HB hHeld ⊢;refine p1_ 0 1 ?_;refine p1_ 1 3 ?_;refine p1_ 2 7 ?_;refine p1_ 6 71 ?_;refine p1_ 7 199 ?_;refine p1_ 8 455 ?_;refine p1_ 13 8647 ?_;refine p1_ 14 25031 ?_;refine p1_ 15 57799 ?_;refine p1_ 20 1106375 ?_;refine p1_ 21 3203527 ?_;refine p1_ 22 7397831 ?_
       refine take_ (i:=3) (N:=some 22) (v:=?_) (a':=?_) (mB 29 7397839) rfl rfl (take_ofW HT_.out HW_.out (by kernel_rfl)) (fun _ _ _ h=>h) (Or.inl ⟨by rfl,?_⟩) hHeld ?_ ?_;rotate_left
       ·intro w' _;go_simp;with_reducible rfl
       rotate_left
       ·simp only[Act.put,sa_,sb_,sc_,i64_w,i32_w];rfl
       refine p1_ 4 7397855 ?_;refine p1_ 5 7397887 ?_
       refine take_ (i:=9) (N:=some 28) (v:=?_) (a':=?_) (mB 29 7398399) rfl rfl (take_ofW HT_.out HW_.out (by kernel_rfl)) (fun _ _ _ h=>h) (Or.inl ⟨by rfl,?_⟩) hHeld ?_ ?_;rotate_left
       ·intro w' _;go_simp;with_reducible rfl
       rotate_left
       ·simp only[Act.put,sa_,sb_,sc_,i64_w,i32_w];rfl
       refine p1_ 10 7399423 ?_;refine p1_ 11 7401471 ?_;refine p1_ 12 7405567 ?_
       refine take_ (i:=16) (N:=some 35) (v:=?_) (a':=?_) (mB 29 7471103) rfl rfl (take_ofW HT_.out HW_.out (by kernel_rfl)) (fun _ _ _ h=>h) (Or.inl ⟨by rfl,?_⟩) hHeld ?_ ?_;rotate_left
       ·intro w' _;go_simp;with_reducible rfl
       rotate_left
       ·simp only[Act.put,sa_,sb_,sc_,i64_w,i32_w];rfl
       refine p1_ 17 7602175 ?_;refine p1_ 18 7864319 ?_;refine p1_ 19 8388607 ?_
       refine take_ (i:=23) (N:=some 42) (v:=?_) (a':=?_) (mB 29 16777215) rfl rfl (take_ofW HT_.out HW_.out (by kernel_rfl)) (fun _ _ _ h=>h) (Or.inl ⟨by rfl,?_⟩) hHeld ?_ ?_;rotate_left
       ·intro w' _;go_simp;with_reducible rfl
       rotate_left
       ·simp only[Act.put,sa_,sb_,sc_,i64_w,i32_w];rfl
       refine p1_ 24 33554431 ?_;refine p1_ 25 67108863 ?_;refine oq_ 26 (some 45) 29 134217727 HT_ (fun K hK=>?_);refine value_ (w1:=?_) (v:=?_) (by rfl) rfl ?_ ?_;rotate_left 2
       ·go_simp
        constructor
        ·rfl
        ·rfl
       refine hK.out _ _ trivial (fun hHeld=>?_);clear hK K;refine nm_ 45 ?_;refine oq_ 27 (some 46) 29 268435455 HT_ (fun K hK=>?_);refine Kd.R_append_step (Kd.int .u64) (w0:=w) w.heap.size (by rfl) (.tmp 19) (.tmp 45) 126 22 (.int .u64 0) 8 rfl Try.underlying126 info22 rfl (by decide) (by omega) u3 aD (IntKind.u64.wrap ((IntKind.u64.wrap ((IntKind.u64.wrap ((IntKind.u64.wrap ((IntKind.u64.wrap (bt aA aC))*16777216))+(IntKind.u64.wrap ((IntKind.u64.wrap (bt aA (ji6)))*65536))))+(IntKind.u64.wrap ((IntKind.u64.wrap (bt aA (ji10)))*256))))+(IntKind.u64.wrap (bt aA (ji14))))) [.int .u64 (IntKind.u64.wrap ((IntKind.u64.wrap ((IntKind.u64.wrap ((IntKind.u64.wrap ((IntKind.u64.wrap (bt aA aC))*16777216))+(IntKind.u64.wrap ((IntKind.u64.wrap (bt aA (ji6)))*65536))))+(IntKind.u64.wrap ((IntKind.u64.wrap (bt aA (ji10)))*256))))+(IntKind.u64.wrap (bt aA (ji14)))))] (fun _=>True) (fun _=>False) rfl rfl ?aP (fun _ hk=>hk.elim) ?aF ?aO ?aB ?aS ?aL ?_;(case aP=>exact rfl);(case aB=>exact(bl_ HB));(case aF=>exact(fun _ _=>trivial));(case aO=>exact(rk_ aE));(case aS=>exact(below_size (bl_ HB)));(case aL=>have:=aY.out;omega);intro bK bL ho hb hg hat;rw[←aZ.out]at ho;replace HB:=mk_ (hb);have bA:=mk_ (ho);clear aE;clear ho hb hg hat
       refine hK.out _ _ trivial (fun hHeld=>?_);clear hK K;refine nm_ 46 ?_;refine p1_ 28 536870911 ?_;refine dq_ HT_ ?_
       try go_wp2
       go_roundg k2
       case measure=>have:=HK1.out;have:=HK2.out;omega
       case rel=>exact⟨(y441),(wrap64 (aC+4)),eq_,H',⟨by have:=HK1.out;have:=HK2.out;omega⟩,⟨rr_ bA⟩,⟨bl_ HB⟩⟩
      ·clear H;have H:=h_;clear h_;obtain rfl:=Option.some.inj H
       go_wp2
       go_ret;exact⟨_,er_,by(with_reducible repeat(first|apply Kd.R_alloc|apply Kd.R_drewN|apply Kd.R_drew));exact aE.out,bl_ HB⟩
   ·rw[if_neg c2]at H;have aN:=beq_eq_false_iff_ne.mpr c2;have aQ:=bne_iff_ne.mpr c2;obtain⟨y438,hy438⟩:∃y_:List Int,y_=(([0]:List Int)):=⟨_,rfl⟩
    (try replace H:=(Option.bind_some _ _).symm.trans H);(try rw[←hy438]at H)
    have aW:=mk_ hy438;clear hy438;replace H:=ip_ H;obtain⟨aG,H⟩:=H;have bM:=eq_true aG;have bN:=decide_eq_true aG
    try have bO:(9223372036854775807<aA.size+(strOfNums y438).size)=False:=eq_false (Nat.not_lt.2 aG)
    have H':=mk_ H;clear H
    go_wp2_with (first|(refine gq_ 10 ?_;refine Kd.R_lit (Kd.int .u8) _ 5 ?hg (N:=10) ?hd (xs:=([0]:List Int)) (inner:=[.int .u8 0]) (ok:=fun _=>True) (okp:=fun _=>True) ?hr ?hp (fun _ hk=>hk) trivial (Below.refl _ _) (Nat.le_refl _) (by simp) ?_;(case hd=>rfl);(case hg=>rfl);(case hr=>first|(go_simp;done)|(go_simp;rfl));(case hp=>exact(Reps.one (show Kd.M (Kd.int .u8) _ _ _ 0 [.int .u8 0]from rfl) (Reps.none _ _)));intro bP bQ ho23 hb hg_ hnew_;clear hg_ hnew_;(first|rw[←aW.out]at ho23|(simp only[Int.reduceToNat]at ho23;rw[←aW.out]at ho23));have bB:=mk_ (Kd.R_lower ho23 (below_size (bl_ HB)));replace HB:=bs_ HB hb;clear hb ho23;have hcv24:=own_string (P:=Try.prog) Try.underlying129 Try.underlying5 Try.underlying9 (Kd.own_of_R bB.out)))
    go_roundg k1
    case measure=>have:=HK1.out;omega
    case rel=>exact⟨(aA++(strOfNums y438)),eq_,H',⟨by have:=HK1.out;omega⟩,⟨bl_ HB⟩⟩
def rillmeterref02_Sum.l0:Nat→Int→Int→List Int→Int→Option (Int)
  |0,_,_,_,_=>none
  |k+1,a,b,c,d=>if d<(c.length:Int)then((rillmeterref01_Mul.f k a b).bind fun t449=>(if 0≤d then((rillmeterref01_Add.f (rd c d) 1).bind fun t451=>((rillmeterref01_Add.f t449 t451).bind fun t452=>(rillmeterref02_Sum.l0 k a t452 c (wrap64 (d+1)))))else(none)))else((rillmeterref01_Mul.f k a b).bind fun t453=>((rillmeterref01_Pow.f k t453 17).bind fun t454=>(some t454)))
def rillmeterref02_Sum.f (k:Nat)(a0:Int)(a1:ByteArray):Option (Int):=(rillmeterref01_Add.f a0 2).bind fun t444=>((rillmeterref01_Of.f (IntKind.u64.wrap ((a1.size:Int)))).bind fun t445=>((rillmeterref02_words.f k a1).bind fun t446=>(rillmeterref02_Sum.l0 k t444 t445 t446 0)))
theorem rillmeterref02_Sum.mono_l:∀k,(∀y0 y1 y2 y3,LeO (rillmeterref02_Sum.l0 k y0 y1 y2 y3) (rillmeterref02_Sum.l0 (k+1) y0 y1 y2 y3))
  |0=>fun _ _ _ _ r h=>by simp[rillmeterref02_Sum.l0]at h
  |k+1=>by
    have ih0:=rillmeterref02_Sum.mono_l k
    · intro y0 y1 y2 y3
      unfold rillmeterref02_Sum.l0
      repeat' with_reducible first|exact ih0 .. |exact rillmeterref01_Mul.mono .. |exact rillmeterref01_Pow.mono .. |exact rillmeterref02_words.mono .. |exact LeO.refl _|exact LeO.none _|refine LeO.ite ?_ ?_|refine LeO.bind ?_ (fun _=>?_)
theorem rillmeterref02_Sum.mono:∀a0 a1 k,LeO (rillmeterref02_Sum.f k a0 a1) (rillmeterref02_Sum.f (k+1) a0 a1):=by
  intro a0 a1 k
  have ih0:=rillmeterref02_Sum.mono_l k
  unfold rillmeterref02_Sum.f
  repeat' with_reducible first|exact ih0 .. |exact rillmeterref01_Mul.mono .. |exact rillmeterref01_Pow.mono .. |exact rillmeterref02_words.mono .. |exact LeO.refl _|exact LeO.none _|refine LeO.ite ?_ ?_|refine LeO.bind ?_ (fun _=>?_)
theorem rillmeterref02_Sum.calls (k:Nat)(a0:Int)(a1:ByteArray)(r:Int)(w:World)(h:rillmeterref02_Sum.f k a0 a1=some r):
    Calls Try.prog 73 #[.int .u64 a0,.string a1] w fun e w'=>e=.returned (.int .u64 r)∧Below w.heap.size w w':=by
 have HB:=mk_ (Below.refl w.heap.size w);have H:=h;clear h;unfold rillmeterref02_Sum.f at H;replace H:=bi_ H;obtain⟨aD,A3,H⟩:=H;replace H:=bi_ H;obtain⟨aH,A4,H⟩:=H;replace H:=bi_ H;obtain⟨aC,A5,H⟩:=H;have H':=mk_ H;clear H
 go_enter Try.func73,Try.ntmps73
 go_wp2_with (first|(go_at_call 63;(with_reducible refine(rillmeterref01_Add.calls a0 2 aD _ A3.out).mono ?_);rintro e w' ⟨rfl,⟨nd,rfl⟩⟩;(try first|exact⟨rfl,_,World.drewN_drewN _ _ _⟩|exact⟨rfl,_,Eq.trans (World.drewN_drewN _ _ _) (congrArg (World.drewN _) (Nat.add_assoc _ _ _))⟩))|(go_at_call 81;(with_reducible refine(rillmeterref01_Of.calls (IntKind.u64.wrap ((a1.size:Int))) aH _ A4.out).mono ?_);rintro e w' ⟨rfl,⟨nd,rfl⟩⟩;(try first|exact⟨rfl,_,World.drewN_drewN _ _ _⟩|exact⟨rfl,_,Eq.trans (World.drewN_drewN _ _ _) (congrArg (World.drewN _) (Nat.add_assoc _ _ _))⟩))|(go_at_call 82;(with_reducible refine(rillmeterref02_words.calls k a1 aC _ A5.out).mono ?_);rintro e w6 ⟨aT,rfl,ho0,hb⟩;have aU:=mk_ (Kd.R_lower ho0 (below_size (bl_ HB)));replace HB:=bs_ HB hb;(try clear hb);(try clear ho0)))
 repeat(go_quiet (first|(go_at_call 63;(with_reducible refine(rillmeterref01_Add.calls a0 2 aD _ A3.out).mono ?_);rintro e w' ⟨rfl,⟨nd,rfl⟩⟩;(try first|exact⟨rfl,_,World.drewN_drewN _ _ _⟩|exact⟨rfl,_,Eq.trans (World.drewN_drewN _ _ _) (congrArg (World.drewN _) (Nat.add_assoc _ _ _))⟩))|(go_at_call 81;(with_reducible refine(rillmeterref01_Of.calls (IntKind.u64.wrap ((a1.size:Int))) aH _ A4.out).mono ?_);rintro e w' ⟨rfl,⟨nd,rfl⟩⟩;(try first|exact⟨rfl,_,World.drewN_drewN _ _ _⟩|exact⟨rfl,_,Eq.trans (World.drewN_drewN _ _ _) (congrArg (World.drewN _) (Nat.add_assoc _ _ _))⟩))|(go_at_call 82;(with_reducible refine(rillmeterref02_words.calls k a1 aC _ A5.out).mono ?_);rintro e w6 ⟨aT,rfl,ho0,hb⟩;have aU:=mk_ (Kd.R_lower ho0 (below_size (bl_ HB)));replace HB:=bs_ HB hb;(try clear hb);(try clear ho0)));try go_wp2_with (first|(go_at_call 63;(with_reducible refine(rillmeterref01_Add.calls a0 2 aD _ A3.out).mono ?_);rintro e w' ⟨rfl,⟨nd,rfl⟩⟩;(try first|exact⟨rfl,_,World.drewN_drewN _ _ _⟩|exact⟨rfl,_,Eq.trans (World.drewN_drewN _ _ _) (congrArg (World.drewN _) (Nat.add_assoc _ _ _))⟩))|(go_at_call 81;(with_reducible refine(rillmeterref01_Of.calls (IntKind.u64.wrap ((a1.size:Int))) aH _ A4.out).mono ?_);rintro e w' ⟨rfl,⟨nd,rfl⟩⟩;(try first|exact⟨rfl,_,World.drewN_drewN _ _ _⟩|exact⟨rfl,_,Eq.trans (World.drewN_drewN _ _ _) (congrArg (World.drewN _) (Nat.add_assoc _ _ _))⟩))|(go_at_call 82;(with_reducible refine(rillmeterref02_words.calls k a1 aC _ A5.out).mono ?_);rintro e w6 ⟨aT,rfl,ho0,hb⟩;have aU:=mk_ (Kd.R_lower ho0 (below_size (bl_ HB)));replace HB:=bs_ HB hb;(try clear hb);(try clear ho0))))
 go_loopg [6,8] k (fun kq v6 v8 w'=>∃(aI aA:Int),v6=.int .u64 aI∧v8=.int .i64 aA∧Aside0 (rillmeterref02_Sum.l0 kq aD aI aC aA=some r)∧Aside0 (kq≤k)∧Aside0 (Kd.R (Kd.int .u64) 22 w' w.heap.size (fun _=>True) aT aC)∧Aside0 (Below w.heap.size w w'))
 case atStart=>exact⟨(aH),(0),eq_,eq_,H',⟨Nat.le_refl _⟩,⟨rr_ aU⟩,⟨bl_ HB⟩⟩
 case round=>
  clear H';obtain⟨aI,aA,rfl,rfl,HA,HK1,aQ,HB⟩:=hrel
  cases gk with
  |zero=>exact absurd HA.out (by simp[rillmeterref02_Sum.l0])
  |succ k1=>
   have H:=HA.out;clear HA;simp only[rillmeterref02_Sum.l0]at H
   rcases ic_ H with⟨bJ,h_⟩|⟨bJ,h_⟩
   ·clear H;have H:=h_;clear h_;replace H:=bi_ H;obtain⟨aM,A8,H⟩:=H;replace H:=it_ H;obtain⟨bK,H⟩:=H;replace H:=bi_ H;obtain⟨aJ,aV,H⟩:=H;replace H:=bi_ H;obtain⟨aK,aW,H⟩:=H;have H':=mk_ H;clear H;obtain⟨bL,bM,eo12⟩:=Kd.R_slice aQ.out;subst eo12
    go_wp2_with (first|(go_at_call 62;(with_reducible refine(rillmeterref01_Mul.calls k1 aD aI aM _ A8.out).mono ?_);rintro e w' ⟨rfl,⟨nd,rfl⟩⟩;(try first|exact⟨rfl,_,World.drewN_drewN _ _ _⟩|exact⟨rfl,_,Eq.trans (World.drewN_drewN _ _ _) (congrArg (World.drewN _) (Nat.add_assoc _ _ _))⟩);have aE:0≤(aA:Int):=od_;have aG:aA<(aC.length:Int):=od_;obtain⟨bF,e450,bG⟩:=Kd.at_int (Kd.R_reads' aQ.out).2.2 aA aE aG;cases e450;replace aE:=eq_true aE;replace aG:=eq_true aG)|(go_at_call 63;(with_reducible refine(rillmeterref01_Add.calls (rd aC aA) 1 aJ _ aV.out).mono ?_);rintro e w' ⟨rfl,⟨nd,rfl⟩⟩;(try first|exact⟨rfl,_,World.drewN_drewN _ _ _⟩|exact⟨rfl,_,Eq.trans (World.drewN_drewN _ _ _) (congrArg (World.drewN _) (Nat.add_assoc _ _ _))⟩))|(go_at_call 63;(with_reducible refine(rillmeterref01_Add.calls aM aJ aK _ aW.out).mono ?_);rintro e w' ⟨rfl,⟨nd,rfl⟩⟩;(try first|exact⟨rfl,_,World.drewN_drewN _ _ _⟩|exact⟨rfl,_,Eq.trans (World.drewN_drewN _ _ _) (congrArg (World.drewN _) (Nat.add_assoc _ _ _))⟩)))
    repeat(go_quiet (first|(go_at_call 62;(with_reducible refine(rillmeterref01_Mul.calls k1 aD aI aM _ A8.out).mono ?_);rintro e w' ⟨rfl,⟨nd,rfl⟩⟩;(try first|exact⟨rfl,_,World.drewN_drewN _ _ _⟩|exact⟨rfl,_,Eq.trans (World.drewN_drewN _ _ _) (congrArg (World.drewN _) (Nat.add_assoc _ _ _))⟩);have aE:0≤(aA:Int):=od_;have aG:aA<(aC.length:Int):=od_;obtain⟨bF,e450,bG⟩:=Kd.at_int (Kd.R_reads' aQ.out).2.2 aA aE aG;cases e450;replace aE:=eq_true aE;replace aG:=eq_true aG)|(go_at_call 63;(with_reducible refine(rillmeterref01_Add.calls (rd aC aA) 1 aJ _ aV.out).mono ?_);rintro e w' ⟨rfl,⟨nd,rfl⟩⟩;(try first|exact⟨rfl,_,World.drewN_drewN _ _ _⟩|exact⟨rfl,_,Eq.trans (World.drewN_drewN _ _ _) (congrArg (World.drewN _) (Nat.add_assoc _ _ _))⟩))|(go_at_call 63;(with_reducible refine(rillmeterref01_Add.calls aM aJ aK _ aW.out).mono ?_);rintro e w' ⟨rfl,⟨nd,rfl⟩⟩;(try first|exact⟨rfl,_,World.drewN_drewN _ _ _⟩|exact⟨rfl,_,Eq.trans (World.drewN_drewN _ _ _) (congrArg (World.drewN _) (Nat.add_assoc _ _ _))⟩)));try go_wp2_with (first|(go_at_call 62;(with_reducible refine(rillmeterref01_Mul.calls k1 aD aI aM _ A8.out).mono ?_);rintro e w' ⟨rfl,⟨nd,rfl⟩⟩;(try first|exact⟨rfl,_,World.drewN_drewN _ _ _⟩|exact⟨rfl,_,Eq.trans (World.drewN_drewN _ _ _) (congrArg (World.drewN _) (Nat.add_assoc _ _ _))⟩);have aE:0≤(aA:Int):=od_;have aG:aA<(aC.length:Int):=od_;obtain⟨bF,e450,bG⟩:=Kd.at_int (Kd.R_reads' aQ.out).2.2 aA aE aG;cases e450;replace aE:=eq_true aE;replace aG:=eq_true aG)|(go_at_call 63;(with_reducible refine(rillmeterref01_Add.calls (rd aC aA) 1 aJ _ aV.out).mono ?_);rintro e w' ⟨rfl,⟨nd,rfl⟩⟩;(try first|exact⟨rfl,_,World.drewN_drewN _ _ _⟩|exact⟨rfl,_,Eq.trans (World.drewN_drewN _ _ _) (congrArg (World.drewN _) (Nat.add_assoc _ _ _))⟩))|(go_at_call 63;(with_reducible refine(rillmeterref01_Add.calls aM aJ aK _ aW.out).mono ?_);rintro e w' ⟨rfl,⟨nd,rfl⟩⟩;(try first|exact⟨rfl,_,World.drewN_drewN _ _ _⟩|exact⟨rfl,_,Eq.trans (World.drewN_drewN _ _ _) (congrArg (World.drewN _) (Nat.add_assoc _ _ _))⟩))))
    go_roundg k1
    case measure=>have:=HK1.out;omega
    case rel=>exact⟨(aK),(wrap64 (aA+1)),eq_,eq_,H',⟨by have:=HK1.out;omega⟩,⟨rr_ aQ⟩,⟨bl_ HB⟩⟩
   ·clear H;have H:=h_;clear h_;replace H:=bi_ H;obtain⟨aN,aX,H⟩:=H;replace H:=bi_ H;obtain⟨aR,aY,H⟩:=H;obtain rfl:=Option.some.inj H;obtain⟨bN,bO,eo15⟩:=Kd.R_slice aQ.out;subst eo15
    go_wp2_with (first|(go_at_call 62;(with_reducible refine(rillmeterref01_Mul.calls k1 aD aI aN _ aX.out).mono ?_);rintro e w' ⟨rfl,⟨nd,rfl⟩⟩;(try first|exact⟨rfl,_,World.drewN_drewN _ _ _⟩|exact⟨rfl,_,Eq.trans (World.drewN_drewN _ _ _) (congrArg (World.drewN _) (Nat.add_assoc _ _ _))⟩))|(go_at_call 64;(with_reducible refine(rillmeterref01_Pow.calls k1 aN 17 aR _ aY.out).mono ?_);rintro e w' ⟨rfl,⟨nd,rfl⟩⟩;(try first|exact⟨rfl,_,World.drewN_drewN _ _ _⟩|exact⟨rfl,_,Eq.trans (World.drewN_drewN _ _ _) (congrArg (World.drewN _) (Nat.add_assoc _ _ _))⟩)))
    repeat(go_quiet (first|(go_at_call 62;(with_reducible refine(rillmeterref01_Mul.calls k1 aD aI aN _ aX.out).mono ?_);rintro e w' ⟨rfl,⟨nd,rfl⟩⟩;(try first|exact⟨rfl,_,World.drewN_drewN _ _ _⟩|exact⟨rfl,_,Eq.trans (World.drewN_drewN _ _ _) (congrArg (World.drewN _) (Nat.add_assoc _ _ _))⟩))|(go_at_call 64;(with_reducible refine(rillmeterref01_Pow.calls k1 aN 17 aR _ aY.out).mono ?_);rintro e w' ⟨rfl,⟨nd,rfl⟩⟩;(try first|exact⟨rfl,_,World.drewN_drewN _ _ _⟩|exact⟨rfl,_,Eq.trans (World.drewN_drewN _ _ _) (congrArg (World.drewN _) (Nat.add_assoc _ _ _))⟩)));try go_wp2_with (first|(go_at_call 62;(with_reducible refine(rillmeterref01_Mul.calls k1 aD aI aN _ aX.out).mono ?_);rintro e w' ⟨rfl,⟨nd,rfl⟩⟩;(try first|exact⟨rfl,_,World.drewN_drewN _ _ _⟩|exact⟨rfl,_,Eq.trans (World.drewN_drewN _ _ _) (congrArg (World.drewN _) (Nat.add_assoc _ _ _))⟩))|(go_at_call 64;(with_reducible refine(rillmeterref01_Pow.calls k1 aN 17 aR _ aY.out).mono ?_);rintro e w' ⟨rfl,⟨nd,rfl⟩⟩;(try first|exact⟨rfl,_,World.drewN_drewN _ _ _⟩|exact⟨rfl,_,Eq.trans (World.drewN_drewN _ _ _) (congrArg (World.drewN _) (Nat.add_assoc _ _ _))⟩))))
    go_ret;exact⟨er_,bl_ HB⟩
def rillmeterref02_Cell.f (k:Nat)(a0:Int)(a1:ByteArray)(a2:Int):Option (Int):=if a2<1 then(some 0)else((rillmeterref02_Sum.f k a0 a1).bind fun t455=>(if(IntKind.u64.wrap (a2))=0 then(none)else(some (wrap64 (Int.tmod t455 (IntKind.u64.wrap (a2)))))))
theorem rillmeterref02_Cell.mono:∀a0 a1 a2 k,LeO (rillmeterref02_Cell.f k a0 a1 a2) (rillmeterref02_Cell.f (k+1) a0 a1 a2):=by
  intro a0 a1 a2 k
  unfold rillmeterref02_Cell.f
  repeat' with_reducible first|exact rillmeterref02_Sum.mono .. |exact LeO.refl _|exact LeO.none _|refine LeO.ite ?_ ?_|refine LeO.bind ?_ (fun _=>?_)
theorem rillmeterref02_Cell.calls (k:Nat)(a0:Int)(a1:ByteArray)(a2 r:Int)(w:World)(h:rillmeterref02_Cell.f k a0 a1 a2=some r):
    Calls Try.prog 54 #[.int .u64 a0,.string a1,.int .i64 a2] w fun e w'=>e=.returned (.int .i64 r)∧Below w.heap.size w w':=by
 have HB:=mk_ (Below.refl w.heap.size w);have H:=h;clear h;unfold rillmeterref02_Cell.f at H
 rcases ic_ H with⟨aD,h_⟩|⟨aD,h_⟩
 ·clear H;have H:=h_;clear h_;obtain rfl:=Option.some.inj H
  go_enter Try.func54,Try.ntmps54
  go_wp2
  go_ret;exact⟨er_,bl_ HB⟩
 ·clear H;have H:=h_;clear h_;replace H:=bi_ H;obtain⟨aA,A5,H⟩:=H
  by_cases c6:(IntKind.u64.wrap (a2))=0
  ·rw[if_pos c6]at H;exact absurd H (by simp)
  ·rw[if_neg c6]at H;have aE:=beq_eq_false_iff_ne.mpr c6;have aG:=bne_iff_ne.mpr c6;obtain rfl:=Option.some.inj H
   go_enter Try.func54,Try.ntmps54
   go_wp2_with (first|(refine gk_ 73 ?_;refine gd_ (some 11) Try.func73 (rillmeterref02_Sum.calls k a0 a1 aA _ A5.out) ?_;intro w7 hb;replace HB:=bs_ HB hb;(try clear hb);))
   go_ret;exact⟨er_,bl_ HB⟩
def rillmeterref15_Place.f (k:Nat)(a0_0 a0_1 a0_2:Int)(l0_3:List (S74))(a0_4 a0_5:Int)(l0_6:List (List Int))(a1:ByteArray):Option (Int):=(rillmeterref02_Row.f k a0_0 0).bind fun t457=>((rillmeterref02_Cell.f k t457 a1 (l0_3.length:Int)).bind fun t458=>(some t458))
theorem rillmeterref15_Place.mono:∀a0 a1 a2 a3 a4 a5 a6 a7 k,LeO (rillmeterref15_Place.f k a0 a1 a2 a3 a4 a5 a6 a7) (rillmeterref15_Place.f (k+1) a0 a1 a2 a3 a4 a5 a6 a7):=by
  intro a0 a1 a2 a3 a4 a5 a6 a7 k
  unfold rillmeterref15_Place.f
  repeat' with_reducible first|exact rillmeterref02_Cell.mono .. |exact rillmeterref02_Row.mono .. |exact LeO.refl _|exact LeO.none _|refine LeO.ite ?_ ?_|refine LeO.bind ?_ (fun _=>?_)
def rillmeterref15_Place.T1:Bool × List (List Nat × List Nat):=(true,[([],[]),([0],[0]),([1],[1]),([],[]),([],[]),([4],[4]),([5],[5]),([2,3,6,2],[2,3,6]),([7,7,0,1,2,3,4,5,6,7],[7])])
def rillmeterref15_Place.B1:List Nat:=[0,1,3,0,0,16,48,127,255]
theorem rillmeterref15_Place.tab1:rtab .any (opsOf Try.f26 1)=rillmeterref15_Place.T1:=by kernel_rfl
theorem rillmeterref15_Place.bits1:waitsOk rillmeterref15_Place.T1.2 rillmeterref15_Place.B1=true:=by kernel_rfl
theorem rillmeterref15_Place.calls (k:Nat)(a0_0 a0_1 a0_2:Int)(A0_3:Option Addr)(c0_3:Nat)(l0_3:List (S74))(a0_4 a0_5:Int)(A0_6:Option Addr)(c0_6:Nat)(l0_6:List (List Int))(a1:ByteArray)(r:Int)(w:World)(hr0_3:Kd.C k74 w A0_3 l0_3.length l0_3)(hc0_3:l0_3.length≤c0_3)(hr0_6:Kd.C (Kd.slice 3 (Kd.int .i64)) w A0_6 l0_6.length l0_6)(hc0_6:l0_6.length≤c0_6)(h:rillmeterref15_Place.f k a0_0 a0_1 a0_2 l0_3 a0_4 a0_5 l0_6 a1=some r):
    Calls Try.prog 26 #[.agg #[.int .u64 a0_0,.int .i64 a0_1,.int .i64 a0_2,.slice A0_3 l0_3.length c0_3,.int .u64 a0_4,.int .i64 a0_5,.slice A0_6 l0_6.length c0_6],.string a1] w fun e w'=>e=.returned (.int .i64 r)∧Below w.heap.size w w':=by
 have hu32:=Try.underlying32;have aI:=mk_ hr0_3;have aJ:=mk_ hc0_3;clear hr0_3 hc0_3;have aK:=mk_ hr0_6;have aM:=mk_ hc0_6;clear hr0_6 hc0_6;have HB:=mk_ (Below.refl w.heap.size w);have H:=h;clear h;unfold rillmeterref15_Place.f at H;replace H:=bi_ H;obtain⟨aD,A3,H⟩:=H;replace H:=bi_ H;obtain⟨aE,A4,H⟩:=H;obtain rfl:=Option.some.inj H
 go_enter Try.func26,Try.ntmps26
 try go_wp2_with (first|(refine gq_ 2 ?_;refine bx_ 2 #[.int .u64 a0_0,.int .i64 a0_1,.int .i64 a0_2,.slice A0_3 l0_3.length c0_3,.int .u64 a0_4,.int .i64 a0_5,.slice A0_6 l0_6.length c0_6] 32 ?_;intro aC hg w5 hbox hb;have aA:=mk_ (hbox);have aN:=gx_ hg HB;have aQ:=gx_ hg HB;replace HB:=bs_ HB hb;clear hb hbox hg))
 replace aA:=bd_ aA;replace HB:=bw_ HB;generalize hD_:w5.drew=w6 at aA HB;refine sx_ (n:=9) (ds:=[]) hD_ (cz7_ aA) (fun hHeld=>?_);refine with_tabW rillmeterref15_Place.tab1 rillmeterref15_Place.bits1 (fun HT_ HW_=>?_);clear hD_;refine p1_ 0 1 ?_
 refine p1_ 3 9 ?_
 refine p1_ 4 25 ?_
 refine t1_ 1 27 ?_
 refine t1_ 5 59 ?_
 refine p1_ 6 123 ?_
 refine oq_ 2 (some 7) 9 127 HT_ (fun K hK=>?_);refine gr_ Try.func40 (rillmeterref02_Row.calls k a0_0 0 aD _ A3.out) ?_
 rintro e w' ⟨rfl,⟨nd,rfl⟩⟩;(try replace aA:=mk_ (blk_drewN aA.out nd));refine⟨_,rfl,?_⟩;refine hK.out _ _ hl_ (fun hHeld=>?_);clear hK K;refine nm_ 7 ?_
 refine oq_ 7 (some 12) 9 255 HT_ (fun K hK=>?_);refine gt_ Try.func54 (rillmeterref02_Cell.calls k aD a1 (l0_3.length:Int) aE _ A4.out) ?_
 intro w7 hb;replace aA:=bb_ aA hb;replace HB:=bs_ HB hb;(try clear hb);refine hK.out _ _ hl_ (fun hHeld=>?_);clear hK K;refine nm_ 12 ?_
 refine p1_ 8 511 ?_
 refine dq_ HT_ ?_
 try go_wp2
 go_ret;exact⟨er_,bl_ HB⟩
def rillmeterref11_Cell.f (k:Nat)(a0:Int)(a1:ByteArray)(a2 a3:Int):Option (Int):=(rillmeterref02_Row.f k a0 a2).bind fun t459=>((rillmeterref02_Cell.f k t459 a1 a3).bind fun t460=>(some t460))
theorem rillmeterref11_Cell.mono:∀a0 a1 a2 a3 k,LeO (rillmeterref11_Cell.f k a0 a1 a2 a3) (rillmeterref11_Cell.f (k+1) a0 a1 a2 a3):=by
  intro a0 a1 a2 a3 k
  unfold rillmeterref11_Cell.f
  repeat' with_reducible first|exact rillmeterref02_Cell.mono .. |exact rillmeterref02_Row.mono .. |exact LeO.refl _|exact LeO.none _|refine LeO.ite ?_ ?_|refine LeO.bind ?_ (fun _=>?_)
theorem rillmeterref11_Cell.calls (k:Nat)(a0:Int)(a1:ByteArray)(a2 a3 r:Int)(w:World)(h:rillmeterref11_Cell.f k a0 a1 a2 a3=some r):
    Calls Try.prog 25 #[.int .u64 a0,.string a1,.int .i64 a2,.int .i64 a3] w fun e w'=>e=.returned (.int .i64 r)∧Below w.heap.size w w':=by
 have HB:=mk_ (Below.refl w.heap.size w);have H:=h;clear h;unfold rillmeterref11_Cell.f at H;replace H:=bi_ H;obtain⟨aA,A5,H⟩:=H;replace H:=bi_ H;obtain⟨aC,A6,H⟩:=H;obtain rfl:=Option.some.inj H
 go_enter Try.func25,Try.ntmps25
 go_wp2_with (first|(refine gk_ 40 ?_;refine gd_ (some 11) Try.func40 (rillmeterref02_Row.calls k a0 a2 aA _ A5.out) ?_;rintro w' ⟨nd,rfl⟩)|(refine gk_ 54 ?_;refine gd_ (some 14) Try.func54 (rillmeterref02_Cell.calls k aA a1 a3 aC _ A6.out) ?_;intro w7 hb;replace HB:=bs_ HB hb;(try clear hb);))
 go_ret;exact⟨er_,bl_ HB⟩
def rillmeterref11_Get.l0:Nat→ByteArray→Int→Int→Int→Int→List (List Int)→Option (Int)
  |0,_,_,_,_,_,_=>none
  |k+1,a,b,c,d,e,g=>if c<(g.length:Int)then(if 0≤c then((rillmeterref11_Cell.f k d a c ((rd_L9 g c).length:Int)).bind fun t464=>(if 0≤t464 then(if t464<((rd_L9 g c).length:Int)then(if(rd (rd_L9 g c) t464)<b then(rillmeterref11_Get.l0 k a (rd (rd_L9 g c) t464) (wrap64 (c+1)) d e g)else(rillmeterref11_Get.l0 k a b (wrap64 (c+1)) d e g))else(none))else(none)))else(none))else(some b)
def rillmeterref11_Get.f (k:Nat)(a0_0 a0_1:Int)(l0_2:List (List Int))(a1:ByteArray):Option (Int):=rillmeterref11_Get.l0 k a1 a0_1 0 a0_0 a0_1 l0_2
theorem rillmeterref11_Get.mono_l:∀k,(∀y0 y1 y2 y3 y4 y5,LeO (rillmeterref11_Get.l0 k y0 y1 y2 y3 y4 y5) (rillmeterref11_Get.l0 (k+1) y0 y1 y2 y3 y4 y5))
  |0=>fun _ _ _ _ _ _ r h=>by simp[rillmeterref11_Get.l0]at h
  |k+1=>by
    have ih0:=rillmeterref11_Get.mono_l k
    · intro y0 y1 y2 y3 y4 y5
      unfold rillmeterref11_Get.l0
      repeat' with_reducible first|exact ih0 .. |exact rillmeterref11_Cell.mono .. |exact LeO.refl _|exact LeO.none _|refine LeO.ite ?_ ?_|refine LeO.bind ?_ (fun _=>?_)
theorem rillmeterref11_Get.mono:∀a0 a1 a2 a3 k,LeO (rillmeterref11_Get.f k a0 a1 a2 a3) (rillmeterref11_Get.f (k+1) a0 a1 a2 a3):=by
  intro a0 a1 a2 a3 k
  have ih0:=rillmeterref11_Get.mono_l k
  unfold rillmeterref11_Get.f
  repeat' with_reducible first|exact ih0 .. |exact rillmeterref11_Cell.mono .. |exact LeO.refl _|exact LeO.none _|refine LeO.ite ?_ ?_|refine LeO.bind ?_ (fun _=>?_)
def rillmeterref11_Get.T5:Bool × List (List Nat × List Nat):=(true,[([],[]),([0],[0]),([],[]),([1,2],[1,2]),([3],[3]),([],[]),([5],[5]),([],[]),([],[]),([],[]),([9],[9]),([],[]),([10,11],[10,11]),([12],[12]),([13],[13]),([6,7,8,14],[6,7,8,14]),([4,15],[4,15]),([16],[16]),([17,15,0,1,2,3,4,5,6,7,8,9,10,11,12,13,14,15,16,17],[17])])
def rillmeterref11_Get.B5:List Nat:=[0,1,0,7,15,0,32,0,0,0,512,0,3584,7680,15872,32736,65535,131071,262143]
theorem rillmeterref11_Get.tab5:rtab .any (opsOf Try.f47 5)=rillmeterref11_Get.T5:=by kernel_rfl
theorem rillmeterref11_Get.bits5:waitsOk rillmeterref11_Get.T5.2 rillmeterref11_Get.B5=true:=by kernel_rfl
theorem rillmeterref11_Get.calls (k:Nat)(a0_0 a0_1:Int)(A0_2:Option Addr)(c0_2:Nat)(l0_2:List (List Int))(a1:ByteArray)(r:Int)(w:World)(hr0_2:Kd.C (Kd.slice 3 (Kd.int .i64)) w A0_2 l0_2.length l0_2)(hc0_2:l0_2.length≤c0_2)(h:rillmeterref11_Get.f k a0_0 a0_1 l0_2 a1=some r):
    Calls Try.prog 47 #[.agg #[.int .u64 a0_0,.int .i64 a0_1,.slice A0_2 l0_2.length c0_2],.string a1] w fun e w'=>e=.returned (.int .i64 r)∧Below w.heap.size w w':=by
 have hu30:=Try.underlying30;have aX:=mk_ hr0_2;have bL:=mk_ hc0_2;clear hr0_2 hc0_2;have HB:=mk_ (Below.refl w.heap.size w);have H:=h;clear h;unfold rillmeterref11_Get.f at H;have H':=mk_ H;clear H
 go_enter Try.func47,Try.ntmps47
 go_wp2_with (first|(refine gq_ 2 ?_;refine bx_ 2 #[.int .u64 a0_0,.int .i64 a0_1,.slice A0_2 l0_2.length c0_2] 30 ?_;intro aD hg w3 hbox hb;have aB:=mk_ (hbox);have bM:=gx_ hg HB;have bN:=gx_ hg HB;replace HB:=bs_ HB hb;clear hb hbox hg;have:=cz3_ aB;have:=fz3_ aB))
 go_loopg [5,6] k (fun kq v5 v6 w'=>∃(aH aA:Int),v5=.int .i64 aH∧v6=.int .i64 aA∧Aside0 (rillmeterref11_Get.l0 kq a1 aH aA a0_0 a0_1 l0_2=some r)∧Aside0 (kq≤k)∧Aside0 (w'.heap[aD]? =some (.cells #[.int .u64 a0_0,.int .i64 a0_1,(.slice A0_2 l0_2.length c0_2)] 30 (0,0)))∧Aside0 (Below w.heap.size w w'))
 case atStart=>exact⟨(a0_1),(0),eq_,eq_,H',⟨Nat.le_refl _⟩,⟨bk_ aB⟩,⟨bl_ HB⟩⟩
 case round=>
  clear H';obtain⟨aH,aA,rfl,rfl,HA,HK1,aB,HB⟩:=hrel
  cases gk with
  |zero=>exact absurd HA.out (by simp[rillmeterref11_Get.l0])
  |succ k1=>
   have H:=HA.out;clear HA;simp only[rillmeterref11_Get.l0]at H
   rcases ic_ H with⟨bH,h_⟩|⟨bH,h_⟩
   ·clear H;have H:=h_;clear h_;replace H:=it_ H;obtain⟨bO,H⟩:=H;replace H:=bi_ H;obtain⟨aC,A7,H⟩:=H;replace H:=it_ H;obtain⟨bP,H⟩:=H;replace H:=it_ H;obtain⟨bQ,H⟩:=H
    rcases ic_ H with⟨bI,h_⟩|⟨bI,h_⟩
    ·clear H;have H:=h_;clear h_;have H':=mk_ H;clear H;have:=cz3_ aB;have:=fz3_ aB
     try go_wp2
     replace aB:=bd_ aB;replace HB:=bw_ HB;obtain⟨aM,aN,aI,A462_0,c462_0,e462,aE,aU,hi462_0⟩:=aq_ (at_L9 aX.out aA);have aJ:=aE
     cases e462;(try replace aE:=bt_ HB aE);have aV:=mk_ hi462_0;have bJ:=mk_ aU;clear hi462_0 aU;obtain⟨aO,aP,aY,A463_0,c463_0,e463,aF,aW,hi463_0⟩:=aq_ (at_L9 aX.out aA);have aK:=aF;obtain rfl:aI=aY:=(by injection e463);(try replace aF:=bt_ HB aF);have aZ:=mk_ hi463_0;have bK:=mk_ aW;clear hi463_0 aW;have ea_:=Option.some.inj (aE.symm.trans aF)
     injection ea_ with ea_ en_ ec_
     subst ea_;subst ec_;clear en_;obtain⟨aQ,aR,aS,e465,aG⟩:=aq_ (Kd.at_int aV.out aC);have aL:=aG
     cases e465;(try replace aG:=bt_ HB aG);generalize hD_:wr.drew=bX at aB HB aV aZ aE aF aG;refine sx_ (n:=19) (ds:=[]) hD_ (cw3_ aB (And.intro (bt_ HB aJ) (And.intro (bt_ HB aK) (bt_ HB aL)))) (fun hHeld=>?_);refine with_tabW rillmeterref11_Get.tab5 rillmeterref11_Get.bits5 (fun HT_ HW_=>?_);clear hD_;refine p1_ 0 1 ?_
     refine p1_ 2 5 ?_;refine p1_ 5 37 ?_;refine p1_ 7 165 ?_;refine p1_ 8 421 ?_;refine p1_ 9 933 ?_;refine p1_ 11 2981 ?_;refine t1_ 1 2983 ?_;refine p1_ 3 2991 ?_;refine t1_ 4 3007 ?_;refine t1_ 6 3071 ?_;refine t1_ 10 4095 ?_;refine p1_ 12 8191 ?_;refine t1_ 13 16383 ?_;refine p1_ 14 32767 ?_;refine oq_ 15 (some 32) 19 65535 HT_ (fun K hK=>?_);refine gt_ Try.func25 (rillmeterref11_Cell.calls k1 a0_0 a1 aA ((rd_L9 l0_2 aA).length:Int) aC _ A7.out) ?_
     intro bY hb;replace aB:=bb_ aB hb;replace HB:=bs_ HB hb;(try clear hb);refine hK.out _ _ hl_ (fun hHeld=>?_);clear hK K;refine nm_ 32 ?_;refine p1_ 16 131071 ?_;refine t1_ 17 262143 ?_;refine p1_ 18 524287 ?_;refine dq_ HT_ ?_
     try go_wp2
     go_roundg k1
     case measure=>have:=HK1.out;omega
     case rel=>exact⟨(rd (rd_L9 l0_2 aA) aC),(wrap64 (aA+1)),eq_,eq_,H',⟨by have:=HK1.out;omega⟩,⟨bk_ aB⟩,⟨bl_ HB⟩⟩
    ·clear H;have H:=h_;clear h_;have H':=mk_ H;clear H;have:=cz3_ aB;have:=fz3_ aB
     try go_wp2
     replace aB:=bd_ aB;replace HB:=bw_ HB;obtain⟨aM,aN,aI,A462_0,c462_0,e462,aE,aU,hi462_0⟩:=aq_ (at_L9 aX.out aA);have aJ:=aE
     cases e462;(try replace aE:=bt_ HB aE);have aV:=mk_ hi462_0;have bJ:=mk_ aU;clear hi462_0 aU;obtain⟨aO,aP,aY,A463_0,c463_0,e463,aF,aW,hi463_0⟩:=aq_ (at_L9 aX.out aA);have aK:=aF;obtain rfl:aI=aY:=(by injection e463);(try replace aF:=bt_ HB aF);have aZ:=mk_ hi463_0;have bK:=mk_ aW;clear hi463_0 aW;have ea_:=Option.some.inj (aE.symm.trans aF)
     injection ea_ with ea_ en_ ec_
     subst ea_;subst ec_;clear en_;obtain⟨aQ,aR,aS,e465,aG⟩:=aq_ (Kd.at_int aV.out aC);have aL:=aG
     cases e465;(try replace aG:=bt_ HB aG);generalize hD_:wr.drew=cF at aB HB aV aZ aE aF aG;refine sx_ (n:=19) (ds:=[]) hD_ (cw3_ aB (And.intro (bt_ HB aJ) (And.intro (bt_ HB aK) (bt_ HB aL)))) (fun hHeld=>?_);refine with_tabW rillmeterref11_Get.tab5 rillmeterref11_Get.bits5 (fun HT_ HW_=>?_);clear hD_;refine p1_ 0 1 ?_
     refine p1_ 2 5 ?_;refine p1_ 5 37 ?_;refine p1_ 7 165 ?_;refine p1_ 8 421 ?_;refine p1_ 9 933 ?_;refine p1_ 11 2981 ?_;refine t1_ 1 2983 ?_;refine p1_ 3 2991 ?_;refine t1_ 4 3007 ?_;refine t1_ 6 3071 ?_;refine t1_ 10 4095 ?_;refine p1_ 12 8191 ?_;refine t1_ 13 16383 ?_;refine p1_ 14 32767 ?_;refine oq_ 15 (some 32) 19 65535 HT_ (fun K hK=>?_);refine gt_ Try.func25 (rillmeterref11_Cell.calls k1 a0_0 a1 aA ((rd_L9 l0_2 aA).length:Int) aC _ A7.out) ?_
     intro cG hb;replace aB:=bb_ aB hb;replace HB:=bs_ HB hb;(try clear hb);refine hK.out _ _ hl_ (fun hHeld=>?_);clear hK K;refine nm_ 32 ?_;refine p1_ 16 131071 ?_;refine t1_ 17 262143 ?_;refine p1_ 18 524287 ?_;refine dq_ HT_ ?_
     try go_wp2
     go_roundg k1
     case measure=>have:=HK1.out;omega
     case rel=>exact⟨(aH),(wrap64 (aA+1)),eq_,eq_,H',⟨by have:=HK1.out;omega⟩,⟨bk_ aB⟩,⟨bl_ HB⟩⟩
   ·clear H;have H:=h_;clear h_;obtain rfl:=Option.some.inj H;have:=cz3_ aB;have:=fz3_ aB
    go_wp2
    go_ret;exact⟨er_,bl_ HB⟩
def rillmeterref15_Get.f (k:Nat)(a0_0 a0_1 a0_2:Int)(l0_3:List (S74))(a0_4 a0_5:Int)(l0_6:List (List Int))(a1:ByteArray):Option (Int × Int × Bool × Bool):=(rillmeterref15_Place.f k a0_0 a0_1 a0_2 l0_3 a0_4 a0_5 l0_6 a1).bind fun t467=>(if 0≤t467 then(if t467<(l0_3.length:Int)then((rillmeterref15_At.f k ((rd_T74 l0_3 t467).f0) ((rd_T74 l0_3 t467).f1) a1).bind fun t470=>(if t470≥0 then(if 0≤t470 then(if t470<(((rd_T74 l0_3 t467).f0).length:Int)then(if((rd_T77 ((rd_T74 l0_3 t467).f0) t470).f2=true)then((rillmeterref11_Get.f k a0_4 a0_5 l0_6 a1).bind fun t473=>(some ((rd_T77 ((rd_T74 l0_3 t467).f0) t470).f1,wrap64 (((rd_T77 ((rd_T74 l0_3 t467).f0) t470).f1)+t473),(t473==0),(t473==255))))else(some ((rd_T77 ((rd_T74 l0_3 t467).f0) t470).f1,(rd_T77 ((rd_T74 l0_3 t467).f0) t470).f1,true,false)))else(none))else(none))else((rillmeterref11_Get.f k a0_4 a0_5 l0_6 a1).bind fun t474=>(some (0,wrap64 (0+t474),(t474==0),(t474==255))))))else(none))else(none))
theorem rillmeterref15_Get.mono:∀a0 a1 a2 a3 a4 a5 a6 a7 k,LeO (rillmeterref15_Get.f k a0 a1 a2 a3 a4 a5 a6 a7) (rillmeterref15_Get.f (k+1) a0 a1 a2 a3 a4 a5 a6 a7):=by
  intro a0 a1 a2 a3 a4 a5 a6 a7 k
  unfold rillmeterref15_Get.f
  repeat' with_reducible first|exact rillmeterref11_Get.mono .. |exact rillmeterref15_At.mono .. |exact rillmeterref15_Place.mono .. |exact LeO.refl _|exact LeO.none _|refine LeO.ite ?_ ?_|refine LeO.bind ?_ (fun _=>?_)
def rillmeterref15_Get.T1:Bool × List (List Nat × List Nat):=(true,[([],[]),([0],[0]),([],[]),([],[]),([2,3],[2,3]),([1,4],[1,4]),([5],[5]),([],[]),([7,6,4,0,1,2,3,4,5,6,7],[6,7])])
def rillmeterref15_Get.B1:List Nat:=[0,1,0,0,12,31,63,0,255]
theorem rillmeterref15_Get.tab1:rtab .any (opsOf Try.f16 1)=rillmeterref15_Get.T1:=by kernel_rfl
theorem rillmeterref15_Get.bits1:waitsOk rillmeterref15_Get.T1.2 rillmeterref15_Get.B1=true:=by kernel_rfl
theorem rillmeterref15_Get.calls (k:Nat)(a0_0 a0_1 a0_2:Int)(A0_3:Option Addr)(c0_3:Nat)(l0_3:List (S74))(a0_4 a0_5:Int)(A0_6:Option Addr)(c0_6:Nat)(l0_6:List (List Int))(a1:ByteArray)(r1 r2:Int)(r3 r4:Bool)(w:World)(hr0_3:Kd.C k74 w A0_3 l0_3.length l0_3)(hc0_3:l0_3.length≤c0_3)(hr0_6:Kd.C (Kd.slice 3 (Kd.int .i64)) w A0_6 l0_6.length l0_6)(hc0_6:l0_6.length≤c0_6)(h:rillmeterref15_Get.f k a0_0 a0_1 a0_2 l0_3 a0_4 a0_5 l0_6 a1=some (r1,r2,r3,r4)):
    Calls Try.prog 16 #[.agg #[.int .u64 a0_0,.int .i64 a0_1,.int .i64 a0_2,.slice A0_3 l0_3.length c0_3,.int .u64 a0_4,.int .i64 a0_5,.slice A0_6 l0_6.length c0_6],.string a1] w fun e w'=>e=.returned (.tuple #[.int .i64 r1,.int .i64 r2,.bool r3,.bool r4])∧Below w.heap.size w w':=by
 have hu32:=Try.underlying32;have hu74:=Try.underlying74;have hu30:=Try.underlying30;have aX:=mk_ hr0_3;have bN:=mk_ hc0_3;clear hr0_3 hc0_3;have bB:=mk_ hr0_6;have bC:=mk_ hc0_6;clear hr0_6 hc0_6;have HB:=mk_ (Below.refl w.heap.size w);have H:=h;clear h;unfold rillmeterref15_Get.f at H;replace H:=bi_ H;obtain⟨aB,A3,H⟩:=H
 replace H:=it_ H;obtain⟨cM,H⟩:=H
 replace H:=it_ H;obtain⟨cN,H⟩:=H;replace H:=bi_ H;obtain⟨aH,A6,H⟩:=H
 by_cases c7:aH≥0
 ·rw[if_pos c7]at H;have cA:decide (0≤aH)=true:=decide_eq_true c7;clear c7;replace H:=it_ H;obtain⟨cO,H⟩:=H;replace H:=it_ H;obtain⟨cP,H⟩:=H;obtain⟨bq10,hbq10⟩:∃b_:Bool,b_=((rd_T77 ((rd_T74 l0_3 aB).f0) aH).f2):=⟨_,rfl⟩
  replace H:(if(bq10=true)then((rillmeterref11_Get.f k a0_4 a0_5 l0_6 a1).bind fun aL=>(some ((rd_T77 ((rd_T74 l0_3 aB).f0) aH).f1,wrap64 (((rd_T77 ((rd_T74 l0_3 aB).f0) aH).f1)+aL),(aL==0),(aL==255))))else(some ((rd_T77 ((rd_T74 l0_3 aB).f0) aH).f1,(rd_T77 ((rd_T74 l0_3 aB).f0) aH).f1,true,false)))=some (r1,r2,r3,r4):=by rw[←hbq10]at H;exact H
  have bP:=mk_ hbq10;clear hbq10
  by_cases bQ:(bq10=true)
  ·subst bQ
   rw[if_pos rfl]at H;replace H:=bi_ H;obtain⟨aL,cB,H⟩:=H;simp only[Option.some.injEq,Prod.mk.injEq]at H;obtain⟨rfl,rfl,rfl,rfl⟩:=H
   go_enter Try.func16,Try.ntmps16
   try go_wp2_with (first|(refine gq_ 2 ?_;refine bx_ 2 #[.int .u64 a0_0,.int .i64 a0_1,.int .i64 a0_2,.slice A0_3 l0_3.length c0_3,.int .u64 a0_4,.int .i64 a0_5,.slice A0_6 l0_6.length c0_6] 32 ?_;intro aC hg cC hbox hb;have aA:=mk_ (hbox);have bW:=gx_ hg HB;have bX:=gx_ hg HB;replace HB:=bs_ HB hb;clear hb hbox hg))
   replace aA:=bd_ aA;replace HB:=bw_ HB;obtain⟨aV,aW,aK,A468_0,c468_0,e468,aN,aO,bD,hi468_0⟩:=aq_ (at_T74 aX.out aB);have aI:=aO;have aJ:=aN
   cases e468;(try replace aN:=bt_ HB aN);(try replace aO:=bt_ HB aO);have aU:=mk_ hi468_0;have bO:=mk_ bD;clear hi468_0 bD
   generalize hD_:cC.drew=cQ at aA HB aU aN aO;refine sx_ (n:=9) (ds:=[]) hD_ (cw7_ aA (And.intro (bt_ HB aJ) (bt_ HB aI))) (fun hHeld=>?_);refine with_tabW rillmeterref15_Get.tab1 rillmeterref15_Get.bits1 (fun HT_ HW_=>?_);clear hD_;refine p1_ 0 1 ?_;refine p1_ 3 9 ?_;refine t1_ 1 11 ?_;refine t1_ 2 15 ?_
   refine join_ (σ:=Nat) 1 (mB 9 255) (fun s_=>[(16,.int .i64 aB),(8,.pointer (some ⟨s_,0,none⟩)),(17,.pointer (some (aK.add ((aB).toNat*2)))),(18,.agg #[.slice A468_0 ((rd_T74 l0_3 aB).f0).length c468_0,.int .i64 ((rd_T74 l0_3 aB).f1)])]) (fun s_ w'=>(w'.cell? ⟨aC,0,none⟩=some (.int .u64 a0_0)∧w'.cell? ⟨aC,1,none⟩=some (.int .i64 a0_1)∧w'.cell? ⟨aC,2,none⟩=some (.int .i64 a0_2)∧w'.cell? ⟨aC,3,none⟩=some (.slice (some aK) l0_3.length c0_3)∧w'.cell? ⟨aC,4,none⟩=some (.int .u64 a0_4)∧w'.cell? ⟨aC,5,none⟩=some (.int .i64 a0_5)∧w'.cell? ⟨aC,6,none⟩=some (.slice A0_6 l0_6.length c0_6)∧w'.cell? (aK.add ((aB).toNat*2))=some (.slice A468_0 ((rd_T74 l0_3 aB).f0).length c468_0)∧w'.cell? ⟨(aK.add ((aB).toNat*2)).block,(aK.add ((aB).toNat*2)).off+1,none⟩=some (.int .i64 ((rd_T74 l0_3 aB).f1)))∧(w'.heap[aC]? =some (.cells #[.int .u64 a0_0,.int .i64 a0_1,.int .i64 a0_2,.slice (some aK) l0_3.length c0_3,.int .u64 a0_4,.int .i64 a0_5,.slice A0_6 l0_6.length c0_6] 32 (0,0)))∧(w'.heap[s_]? =some (.cells #[.slice none 0 0,.int .i64 0] 74 (0,0)))∧(w.heap.size≤s_)∧(w.heap.size≤s_)∧(aC≠s_)∧(s_≠aC)∧(Below w.heap.size w w')) ?_ ?_;rotate_left
   ·intro hCont;refine two_ (i:=4) (j:=7) (Ni:=some 16) (Nj:=some 8) (mB 9 31) (mB 9 143) rfl rfl rfl rfl (two_of HT_.out (by kernel_rfl)) (by decide) (by decide) (fun K hK=>?_) (fun K hK=>?_)
    ·skip;refine go2_ Try.func26 #[.agg #[.int .u64 a0_0,.int .i64 a0_1,.int .i64 a0_2,.slice (some aK) l0_3.length c0_3,.int .u64 a0_4,.int .i64 a0_5,.slice A0_6 l0_6.length c0_6],.string a1] ?_
     with_reducible refine(rillmeterref15_Place.calls k a0_0 a0_1 a0_2 _ _ l0_3 a0_4 a0_5 _ _ l0_6 a1 aB _ ?side1 ?side2 ?side3 ?side4 A3.out).mono ?_
     (case side1=>exact ck_ (Kd.C_below aX.out HB.out));(case side2=>exact bN.out);(case side3=>exact ck_ (Kd.C_below bB.out HB.out));(case side4=>exact bC.out);rintro e cD ⟨rfl,hb⟩;refine⟨_,rfl,?_⟩;replace aA:=bb_ aA hb;replace HB:=bs_ HB hb;(try clear hb);refine hK.out _ _ hl_ (fun hHeld=>?_);clear hK K;refine nm_ 16 ?_;refine p1_ 5 63 ?_;refine t1_ 6 127 ?_;refine oq_ 7 (some 8) 9 255 HT_ (fun K hK=>?_);refine by_ 8 #[.slice none 0 0,.int .i64 0] 74 ?_;intro aD hg cE hbox hb;have aF:=mk_ (hbox);have aG:=gx_ hg HB;have aQ:=gx_ hg HB;replace HB:=bs_ HB hb;have aE:=nx_ hg aA;have:=aE.out;have aM:=ny_ hg aA;have:=aM.out;replace aA:=bb_ aA hb;clear hb hbox hg;refine hK.out _ _ hl_ (fun hHeld=>?_);clear hK K;refine nm_ 8 ?_
     exact norm_ (by simp only[putAll,Act.put,sa_,sb_,sc_]) (hCont (aD) _ ⟨hHeld,(bk_ aA),(bk_ aF),aG.out,aQ.out,aE.out,aM.out,(bl_ HB)⟩)
    ·skip;refine by_ 8 #[.slice none 0 0,.int .i64 0] 74 ?_
     intro aD hg cD hbox hb;have aF:=mk_ (hbox);have aG:=gx_ hg HB;have aQ:=gx_ hg HB;replace HB:=bs_ HB hb;have aE:=nx_ hg aA;have:=aE.out;have aM:=ny_ hg aA;have:=aM.out;replace aA:=bb_ aA hb;clear hb hbox hg;refine hK.out _ _ hl_ (fun hHeld=>?_);clear hK K;refine nm_ 8 ?_;refine oq_ 4 (some 16) 9 159 HT_ (fun K hK=>?_);refine gt_ Try.func26 (rillmeterref15_Place.calls k a0_0 a0_1 a0_2 _ _ l0_3 a0_4 a0_5 _ _ l0_6 a1 aB _ ?side1 ?side2 ?side3 ?side4 A3.out) ?_
     (case side1=>exact ck_ (Kd.C_below aX.out HB.out));(case side2=>exact bN.out);(case side3=>exact ck_ (Kd.C_below bB.out HB.out));(case side4=>exact bC.out);intro cE hb;replace aA:=bb_ aA hb;replace aF:=bb_ aF hb;replace HB:=bs_ HB hb;(try clear hb);refine hK.out _ _ hl_ (fun hHeld=>?_);clear hK K;refine nm_ 16 ?_;refine p1_ 5 191 ?_;refine t1_ 6 255 ?_
     exact norm_ (by simp only[putAll,Act.put,sa_,sb_,sc_]) (hCont (aD) _ ⟨hHeld,(bk_ aA),(bk_ aF),aG.out,aQ.out,aE.out,aM.out,(bl_ HB)⟩)
   rintro aD aR ⟨hS_,h0_,h1_,h2_,h3_,h4_,h5_,h6_⟩;(try dsimp only at hS_ h0_ h1_ h2_ h3_ h4_ h5_ h6_);replace aA:=mk_ (h0_);have aF:=mk_ (h1_);have aG:=mk_ (h2_);have aQ:=mk_ (h3_);have aE:=mk_ (h4_);have:=aE.out;have aM:=mk_ (h5_);have:=aM.out;replace HB:=mk_ (h6_);clear h0_ h1_ h2_ h3_ h4_ h5_ h6_;have hHeld:aR.cell? ⟨aC,0,none⟩=some (.int .u64 a0_0)∧aR.cell? ⟨aC,1,none⟩=some (.int .i64 a0_1)∧aR.cell? ⟨aC,2,none⟩=some (.int .i64 a0_2)∧aR.cell? ⟨aC,3,none⟩=some (.slice (some aK) l0_3.length c0_3)∧aR.cell? ⟨aC,4,none⟩=some (.int .u64 a0_4)∧aR.cell? ⟨aC,5,none⟩=some (.int .i64 a0_5)∧aR.cell? ⟨aC,6,none⟩=some (.slice A0_6 l0_6.length c0_6)∧aR.cell? (aK.add ((aB).toNat*2))=some (.slice A468_0 ((rd_T74 l0_3 aB).f0).length c468_0)∧aR.cell? ⟨(aK.add ((aB).toNat*2)).block,(aK.add ((aB).toNat*2)).off+1,none⟩=some (.int .i64 ((rd_T74 l0_3 aB).f1)):=hS_;refine norm_ (a':=?_) ?_ ?_;rotate_left
   ·simp only[putAll,Act.put,sa_,sb_,sc_];rfl
   refine oq_ 8 (none) 9 511 HT_ (fun K hK=>?_);have hs18:aR.cell? ⟨aD,0,none⟩=some (.slice none 0 0):=bc_ aF 0;have hfs18:=blk_frozen aF.out 0;have hs19:aR.cell? ⟨aD,1,none⟩=some (.int .i64 0):=bc_ aF 1;have hfs19:=blk_frozen aF.out 1;refine skip_ (w1:=?_) (by rfl) rfl ?_ ?_;rotate_left
   ·go_simp;rfl
   refine hK.out _ _ hm_ (fun hHeld=>?_)
   clear hK K;refine dq_ HT_ ?_;have:=cz2_ aF;have:=fz2_ aF
   try go_wp2_with (first|(refine gk_ 41 ?_;refine gd_ (some 21) Try.func41 (rillmeterref15_At.calls k _ _ ((rd_T74 l0_3 aB).f0) ((rd_T74 l0_3 aB).f1) a1 aH _ ?side1 ?side2 A6.out) ?_;(case side1=>exact Kd.C_below aU.out (bl_ HB));(case side2=>exact bO.out);intro aY hb;replace aA:=bbf_ aA hb;replace aF:=mk_ (blk_below (g:=aD) (o:=.cells #[.slice A468_0 ((rd_T74 l0_3 aB).f0).length c468_0,.int .i64 ((rd_T74 l0_3 aB).f1)] 74 (0,0)) (pt_ aF) hb);replace HB:=bs_ HB hb;(try clear hb);have:=cz2_ aF;have:=fz2_ aF;obtain⟨bE,bF,bR,e471,bG,bH,aZ⟩:=aq_ (at_T77 aU.out aH);(try rw[←bP.out]at aZ);cases e471;replace bG:=bt_ HB bG;replace bH:=bt_ HB bH;replace aZ:=bt_ HB aZ;obtain⟨bI,bJ,bS,e472,bK,bL,bA⟩:=aq_ (at_T77 aU.out aH);(try rw[←bP.out]at bA);obtain rfl:bR=bS:=(by injection e472);replace bK:=bt_ HB bK;replace bL:=bt_ HB bL;replace bA:=bt_ HB bA;have:=cz7_ aA;have:=fz7_ aA)|(refine gk_ 47 ?_;refine gd_ (some 42) Try.func47 (rillmeterref11_Get.calls k a0_4 a0_5 _ _ l0_6 a1 aL _ ?side1 ?side2 cB.out) ?_;(case side1=>exact ck_ (Kd.C_below bB.out HB.out));(case side2=>exact bC.out);intro dP hb;replace aA:=bb_ aA hb;replace aF:=bb_ aF hb;replace HB:=bs_ HB hb;(try clear hb)))
   refine bodyPost_ret (results_list (rs:=[.tmp 4,.tmp 5,.tmp 6,.tmp 7]) rfl (by simp) (.tmp (.tmp (.tmp (.tmp .nil))))) rfl ?_;exact⟨er_,bl_ HB⟩
  ·replace bQ:=Bool.eq_false_iff.mpr bQ;subst bQ
   rw[if_neg (show¬(false=true)by decide)]at H;simp only[Option.some.injEq,Prod.mk.injEq]at H;obtain⟨rfl,rfl,rfl,rfl⟩:=H
   go_enter Try.func16,Try.ntmps16
   try go_wp2_with (first|(refine gq_ 2 ?_;refine bx_ 2 #[.int .u64 a0_0,.int .i64 a0_1,.int .i64 a0_2,.slice A0_3 l0_3.length c0_3,.int .u64 a0_4,.int .i64 a0_5,.slice A0_6 l0_6.length c0_6] 32 ?_;intro aC hg cF hbox hb;have aA:=mk_ (hbox);have bW:=gx_ hg HB;have bX:=gx_ hg HB;replace HB:=bs_ HB hb;clear hb hbox hg))
   replace aA:=bd_ aA;replace HB:=bw_ HB;obtain⟨aV,aW,aK,A468_0,c468_0,e468,aN,aO,bD,hi468_0⟩:=aq_ (at_T74 aX.out aB);have aI:=aO;have aJ:=aN
   cases e468;(try replace aN:=bt_ HB aN);(try replace aO:=bt_ HB aO);have aU:=mk_ hi468_0;have bO:=mk_ bD;clear hi468_0 bD
   generalize hD_:cF.drew=dQ at aA HB aU aN aO;refine sx_ (n:=9) (ds:=[]) hD_ (cw7_ aA (And.intro (bt_ HB aJ) (bt_ HB aI))) (fun hHeld=>?_);refine with_tabW rillmeterref15_Get.tab1 rillmeterref15_Get.bits1 (fun HT_ HW_=>?_);clear hD_;refine p1_ 0 1 ?_;refine p1_ 3 9 ?_;refine t1_ 1 11 ?_;refine t1_ 2 15 ?_
   refine join_ (σ:=Nat) 1 (mB 9 255) (fun s_=>[(16,.int .i64 aB),(8,.pointer (some ⟨s_,0,none⟩)),(17,.pointer (some (aK.add ((aB).toNat*2)))),(18,.agg #[.slice A468_0 ((rd_T74 l0_3 aB).f0).length c468_0,.int .i64 ((rd_T74 l0_3 aB).f1)])]) (fun s_ w'=>(w'.cell? ⟨aC,0,none⟩=some (.int .u64 a0_0)∧w'.cell? ⟨aC,1,none⟩=some (.int .i64 a0_1)∧w'.cell? ⟨aC,2,none⟩=some (.int .i64 a0_2)∧w'.cell? ⟨aC,3,none⟩=some (.slice (some aK) l0_3.length c0_3)∧w'.cell? ⟨aC,4,none⟩=some (.int .u64 a0_4)∧w'.cell? ⟨aC,5,none⟩=some (.int .i64 a0_5)∧w'.cell? ⟨aC,6,none⟩=some (.slice A0_6 l0_6.length c0_6)∧w'.cell? (aK.add ((aB).toNat*2))=some (.slice A468_0 ((rd_T74 l0_3 aB).f0).length c468_0)∧w'.cell? ⟨(aK.add ((aB).toNat*2)).block,(aK.add ((aB).toNat*2)).off+1,none⟩=some (.int .i64 ((rd_T74 l0_3 aB).f1)))∧(w'.heap[aC]? =some (.cells #[.int .u64 a0_0,.int .i64 a0_1,.int .i64 a0_2,.slice (some aK) l0_3.length c0_3,.int .u64 a0_4,.int .i64 a0_5,.slice A0_6 l0_6.length c0_6] 32 (0,0)))∧(w'.heap[s_]? =some (.cells #[.slice none 0 0,.int .i64 0] 74 (0,0)))∧(w.heap.size≤s_)∧(w.heap.size≤s_)∧(aC≠s_)∧(s_≠aC)∧(Below w.heap.size w w')) ?_ ?_;rotate_left
   ·intro hCont;refine two_ (i:=4) (j:=7) (Ni:=some 16) (Nj:=some 8) (mB 9 31) (mB 9 143) rfl rfl rfl rfl (two_of HT_.out (by kernel_rfl)) (by decide) (by decide) (fun K hK=>?_) (fun K hK=>?_)
    ·skip;refine go2_ Try.func26 #[.agg #[.int .u64 a0_0,.int .i64 a0_1,.int .i64 a0_2,.slice (some aK) l0_3.length c0_3,.int .u64 a0_4,.int .i64 a0_5,.slice A0_6 l0_6.length c0_6],.string a1] ?_
     with_reducible refine(rillmeterref15_Place.calls k a0_0 a0_1 a0_2 _ _ l0_3 a0_4 a0_5 _ _ l0_6 a1 aB _ ?side1 ?side2 ?side3 ?side4 A3.out).mono ?_
     (case side1=>exact ck_ (Kd.C_below aX.out HB.out));(case side2=>exact bN.out);(case side3=>exact ck_ (Kd.C_below bB.out HB.out));(case side4=>exact bC.out);rintro e cG ⟨rfl,hb⟩;refine⟨_,rfl,?_⟩;replace aA:=bb_ aA hb;replace HB:=bs_ HB hb;(try clear hb);refine hK.out _ _ hl_ (fun hHeld=>?_);clear hK K;refine nm_ 16 ?_;refine p1_ 5 63 ?_;refine t1_ 6 127 ?_;refine oq_ 7 (some 8) 9 255 HT_ (fun K hK=>?_);refine by_ 8 #[.slice none 0 0,.int .i64 0] 74 ?_;intro aD hg cH hbox hb;have aF:=mk_ (hbox);have aG:=gx_ hg HB;have aQ:=gx_ hg HB;replace HB:=bs_ HB hb;have aE:=nx_ hg aA;have:=aE.out;have aM:=ny_ hg aA;have:=aM.out;replace aA:=bb_ aA hb;clear hb hbox hg;refine hK.out _ _ hl_ (fun hHeld=>?_);clear hK K;refine nm_ 8 ?_
     exact norm_ (by simp only[putAll,Act.put,sa_,sb_,sc_]) (hCont (aD) _ ⟨hHeld,(bk_ aA),(bk_ aF),aG.out,aQ.out,aE.out,aM.out,(bl_ HB)⟩)
    ·skip;refine by_ 8 #[.slice none 0 0,.int .i64 0] 74 ?_
     intro aD hg cG hbox hb;have aF:=mk_ (hbox);have aG:=gx_ hg HB;have aQ:=gx_ hg HB;replace HB:=bs_ HB hb;have aE:=nx_ hg aA;have:=aE.out;have aM:=ny_ hg aA;have:=aM.out;replace aA:=bb_ aA hb;clear hb hbox hg;refine hK.out _ _ hl_ (fun hHeld=>?_);clear hK K;refine nm_ 8 ?_;refine oq_ 4 (some 16) 9 159 HT_ (fun K hK=>?_);refine gt_ Try.func26 (rillmeterref15_Place.calls k a0_0 a0_1 a0_2 _ _ l0_3 a0_4 a0_5 _ _ l0_6 a1 aB _ ?side1 ?side2 ?side3 ?side4 A3.out) ?_
     (case side1=>exact ck_ (Kd.C_below aX.out HB.out));(case side2=>exact bN.out);(case side3=>exact ck_ (Kd.C_below bB.out HB.out));(case side4=>exact bC.out);intro cH hb;replace aA:=bb_ aA hb;replace aF:=bb_ aF hb;replace HB:=bs_ HB hb;(try clear hb);refine hK.out _ _ hl_ (fun hHeld=>?_);clear hK K;refine nm_ 16 ?_;refine p1_ 5 191 ?_;refine t1_ 6 255 ?_
     exact norm_ (by simp only[putAll,Act.put,sa_,sb_,sc_]) (hCont (aD) _ ⟨hHeld,(bk_ aA),(bk_ aF),aG.out,aQ.out,aE.out,aM.out,(bl_ HB)⟩)
   rintro aD aS ⟨hS_,h0_,h1_,h2_,h3_,h4_,h5_,h6_⟩;(try dsimp only at hS_ h0_ h1_ h2_ h3_ h4_ h5_ h6_);replace aA:=mk_ (h0_);have aF:=mk_ (h1_);have aG:=mk_ (h2_);have aQ:=mk_ (h3_);have aE:=mk_ (h4_);have:=aE.out;have aM:=mk_ (h5_);have:=aM.out;replace HB:=mk_ (h6_);clear h0_ h1_ h2_ h3_ h4_ h5_ h6_;have hHeld:aS.cell? ⟨aC,0,none⟩=some (.int .u64 a0_0)∧aS.cell? ⟨aC,1,none⟩=some (.int .i64 a0_1)∧aS.cell? ⟨aC,2,none⟩=some (.int .i64 a0_2)∧aS.cell? ⟨aC,3,none⟩=some (.slice (some aK) l0_3.length c0_3)∧aS.cell? ⟨aC,4,none⟩=some (.int .u64 a0_4)∧aS.cell? ⟨aC,5,none⟩=some (.int .i64 a0_5)∧aS.cell? ⟨aC,6,none⟩=some (.slice A0_6 l0_6.length c0_6)∧aS.cell? (aK.add ((aB).toNat*2))=some (.slice A468_0 ((rd_T74 l0_3 aB).f0).length c468_0)∧aS.cell? ⟨(aK.add ((aB).toNat*2)).block,(aK.add ((aB).toNat*2)).off+1,none⟩=some (.int .i64 ((rd_T74 l0_3 aB).f1)):=hS_;refine norm_ (a':=?_) ?_ ?_;rotate_left
   ·simp only[putAll,Act.put,sa_,sb_,sc_];rfl
   refine oq_ 8 (none) 9 511 HT_ (fun K hK=>?_);have hs31:aS.cell? ⟨aD,0,none⟩=some (.slice none 0 0):=bc_ aF 0;have hfs31:=blk_frozen aF.out 0;have hs32:aS.cell? ⟨aD,1,none⟩=some (.int .i64 0):=bc_ aF 1;have hfs32:=blk_frozen aF.out 1;refine skip_ (w1:=?_) (by rfl) rfl ?_ ?_;rotate_left
   ·go_simp;rfl
   refine hK.out _ _ hm_ (fun hHeld=>?_)
   clear hK K;refine dq_ HT_ ?_;have:=cz2_ aF;have:=fz2_ aF
   try go_wp2_with (first|(refine gk_ 41 ?_;refine gd_ (some 21) Try.func41 (rillmeterref15_At.calls k _ _ ((rd_T74 l0_3 aB).f0) ((rd_T74 l0_3 aB).f1) a1 aH _ ?side1 ?side2 A6.out) ?_;(case side1=>exact Kd.C_below aU.out (bl_ HB));(case side2=>exact bO.out);intro bY hb;replace aA:=bbf_ aA hb;replace aF:=mk_ (blk_below (g:=aD) (o:=.cells #[.slice A468_0 ((rd_T74 l0_3 aB).f0).length c468_0,.int .i64 ((rd_T74 l0_3 aB).f1)] 74 (0,0)) (pt_ aF) hb);replace HB:=bs_ HB hb;(try clear hb);have:=cz2_ aF;have:=fz2_ aF;obtain⟨bE,bF,bR,e471,bG,bH,aZ⟩:=aq_ (at_T77 aU.out aH);(try rw[←bP.out]at aZ);cases e471;replace bG:=bt_ HB bG;replace bH:=bt_ HB bH;replace aZ:=bt_ HB aZ;have bI:0≤(aH:Int):=od_;have bJ:aH<(((rd_T74 l0_3 aB).f0).length:Int):=od_;obtain⟨bS,e472,bK,bL,bA⟩:=at_T77 aU.out aH bI bJ;(try rw[←bP.out]at bA);obtain rfl:bR=bS:=(by injection e472);replace bK:=bt_ HB bK;replace bL:=bt_ HB bL;replace bA:=bt_ HB bA;replace bI:=eq_true bI;replace bJ:=eq_true bJ))
   refine bodyPost_ret (results_list (rs:=[.tmp 4,.tmp 5,.tmp 6,.tmp 7]) rfl (by simp) (.tmp (.tmp (.tmp (.tmp .nil))))) rfl ?_;exact⟨er_,bl_ HB⟩
 ·rw[if_neg c7]at H;have cA:decide (0≤aH)=false:=decide_eq_false c7;clear c7;replace H:=bi_ H;obtain⟨aP,cI,H⟩:=H;simp only[Option.some.injEq,Prod.mk.injEq]at H;obtain⟨rfl,rfl,rfl,rfl⟩:=H
  go_enter Try.func16,Try.ntmps16
  try go_wp2_with (first|(refine gq_ 2 ?_;refine bx_ 2 #[.int .u64 a0_0,.int .i64 a0_1,.int .i64 a0_2,.slice A0_3 l0_3.length c0_3,.int .u64 a0_4,.int .i64 a0_5,.slice A0_6 l0_6.length c0_6] 32 ?_;intro aC hg cJ hbox hb;have aA:=mk_ (hbox);have bW:=gx_ hg HB;have bX:=gx_ hg HB;replace HB:=bs_ HB hb;clear hb hbox hg))
  replace aA:=bd_ aA;replace HB:=bw_ HB;obtain⟨aV,aW,aK,A468_0,c468_0,e468,aN,aO,bD,hi468_0⟩:=aq_ (at_T74 aX.out aB);have aI:=aO;have aJ:=aN
  cases e468;(try replace aN:=bt_ HB aN);(try replace aO:=bt_ HB aO);have aU:=mk_ hi468_0;have bO:=mk_ bD;clear hi468_0 bD
  generalize hD_:cJ.drew=fB at aA HB aU aN aO;refine sx_ (n:=9) (ds:=[]) hD_ (cw7_ aA (And.intro (bt_ HB aJ) (bt_ HB aI))) (fun hHeld=>?_);refine with_tabW rillmeterref15_Get.tab1 rillmeterref15_Get.bits1 (fun HT_ HW_=>?_);clear hD_;refine p1_ 0 1 ?_;refine p1_ 3 9 ?_;refine t1_ 1 11 ?_;refine t1_ 2 15 ?_
  refine join_ (σ:=Nat) 1 (mB 9 255) (fun s_=>[(16,.int .i64 aB),(8,.pointer (some ⟨s_,0,none⟩)),(17,.pointer (some (aK.add ((aB).toNat*2)))),(18,.agg #[.slice A468_0 ((rd_T74 l0_3 aB).f0).length c468_0,.int .i64 ((rd_T74 l0_3 aB).f1)])]) (fun s_ w'=>(w'.cell? ⟨aC,0,none⟩=some (.int .u64 a0_0)∧w'.cell? ⟨aC,1,none⟩=some (.int .i64 a0_1)∧w'.cell? ⟨aC,2,none⟩=some (.int .i64 a0_2)∧w'.cell? ⟨aC,3,none⟩=some (.slice (some aK) l0_3.length c0_3)∧w'.cell? ⟨aC,4,none⟩=some (.int .u64 a0_4)∧w'.cell? ⟨aC,5,none⟩=some (.int .i64 a0_5)∧w'.cell? ⟨aC,6,none⟩=some (.slice A0_6 l0_6.length c0_6)∧w'.cell? (aK.add ((aB).toNat*2))=some (.slice A468_0 ((rd_T74 l0_3 aB).f0).length c468_0)∧w'.cell? ⟨(aK.add ((aB).toNat*2)).block,(aK.add ((aB).toNat*2)).off+1,none⟩=some (.int .i64 ((rd_T74 l0_3 aB).f1)))∧(w'.heap[aC]? =some (.cells #[.int .u64 a0_0,.int .i64 a0_1,.int .i64 a0_2,.slice (some aK) l0_3.length c0_3,.int .u64 a0_4,.int .i64 a0_5,.slice A0_6 l0_6.length c0_6] 32 (0,0)))∧(w'.heap[s_]? =some (.cells #[.slice none 0 0,.int .i64 0] 74 (0,0)))∧(w.heap.size≤s_)∧(w.heap.size≤s_)∧(aC≠s_)∧(s_≠aC)∧(Below w.heap.size w w')) ?_ ?_;rotate_left
  ·intro hCont;refine two_ (i:=4) (j:=7) (Ni:=some 16) (Nj:=some 8) (mB 9 31) (mB 9 143) rfl rfl rfl rfl (two_of HT_.out (by kernel_rfl)) (by decide) (by decide) (fun K hK=>?_) (fun K hK=>?_)
   ·skip;refine go2_ Try.func26 #[.agg #[.int .u64 a0_0,.int .i64 a0_1,.int .i64 a0_2,.slice (some aK) l0_3.length c0_3,.int .u64 a0_4,.int .i64 a0_5,.slice A0_6 l0_6.length c0_6],.string a1] ?_
    with_reducible refine(rillmeterref15_Place.calls k a0_0 a0_1 a0_2 _ _ l0_3 a0_4 a0_5 _ _ l0_6 a1 aB _ ?side1 ?side2 ?side3 ?side4 A3.out).mono ?_
    (case side1=>exact ck_ (Kd.C_below aX.out HB.out));(case side2=>exact bN.out);(case side3=>exact ck_ (Kd.C_below bB.out HB.out));(case side4=>exact bC.out);rintro e cK ⟨rfl,hb⟩;refine⟨_,rfl,?_⟩;replace aA:=bb_ aA hb;replace HB:=bs_ HB hb;(try clear hb);refine hK.out _ _ hl_ (fun hHeld=>?_);clear hK K;refine nm_ 16 ?_;refine p1_ 5 63 ?_;refine t1_ 6 127 ?_;refine oq_ 7 (some 8) 9 255 HT_ (fun K hK=>?_);refine by_ 8 #[.slice none 0 0,.int .i64 0] 74 ?_;intro aD hg cL hbox hb;have aF:=mk_ (hbox);have aG:=gx_ hg HB;have aQ:=gx_ hg HB;replace HB:=bs_ HB hb;have aE:=nx_ hg aA;have:=aE.out;have aM:=ny_ hg aA;have:=aM.out;replace aA:=bb_ aA hb;clear hb hbox hg;refine hK.out _ _ hl_ (fun hHeld=>?_);clear hK K;refine nm_ 8 ?_
    exact norm_ (by simp only[putAll,Act.put,sa_,sb_,sc_]) (hCont (aD) _ ⟨hHeld,(bk_ aA),(bk_ aF),aG.out,aQ.out,aE.out,aM.out,(bl_ HB)⟩)
   ·skip;refine by_ 8 #[.slice none 0 0,.int .i64 0] 74 ?_
    intro aD hg cK hbox hb;have aF:=mk_ (hbox);have aG:=gx_ hg HB;have aQ:=gx_ hg HB;replace HB:=bs_ HB hb;have aE:=nx_ hg aA;have:=aE.out;have aM:=ny_ hg aA;have:=aM.out;replace aA:=bb_ aA hb;clear hb hbox hg;refine hK.out _ _ hl_ (fun hHeld=>?_);clear hK K;refine nm_ 8 ?_;refine oq_ 4 (some 16) 9 159 HT_ (fun K hK=>?_);refine gt_ Try.func26 (rillmeterref15_Place.calls k a0_0 a0_1 a0_2 _ _ l0_3 a0_4 a0_5 _ _ l0_6 a1 aB _ ?side1 ?side2 ?side3 ?side4 A3.out) ?_
    (case side1=>exact ck_ (Kd.C_below aX.out HB.out));(case side2=>exact bN.out);(case side3=>exact ck_ (Kd.C_below bB.out HB.out));(case side4=>exact bC.out);intro cL hb;replace aA:=bb_ aA hb;replace aF:=bb_ aF hb;replace HB:=bs_ HB hb;(try clear hb);refine hK.out _ _ hl_ (fun hHeld=>?_);clear hK K;refine nm_ 16 ?_;refine p1_ 5 191 ?_;refine t1_ 6 255 ?_
    exact norm_ (by simp only[putAll,Act.put,sa_,sb_,sc_]) (hCont (aD) _ ⟨hHeld,(bk_ aA),(bk_ aF),aG.out,aQ.out,aE.out,aM.out,(bl_ HB)⟩)
  rintro aD aT ⟨hS_,h0_,h1_,h2_,h3_,h4_,h5_,h6_⟩;(try dsimp only at hS_ h0_ h1_ h2_ h3_ h4_ h5_ h6_);replace aA:=mk_ (h0_);have aF:=mk_ (h1_);have aG:=mk_ (h2_);have aQ:=mk_ (h3_);have aE:=mk_ (h4_);have:=aE.out;have aM:=mk_ (h5_);have:=aM.out;replace HB:=mk_ (h6_);clear h0_ h1_ h2_ h3_ h4_ h5_ h6_;have hHeld:aT.cell? ⟨aC,0,none⟩=some (.int .u64 a0_0)∧aT.cell? ⟨aC,1,none⟩=some (.int .i64 a0_1)∧aT.cell? ⟨aC,2,none⟩=some (.int .i64 a0_2)∧aT.cell? ⟨aC,3,none⟩=some (.slice (some aK) l0_3.length c0_3)∧aT.cell? ⟨aC,4,none⟩=some (.int .u64 a0_4)∧aT.cell? ⟨aC,5,none⟩=some (.int .i64 a0_5)∧aT.cell? ⟨aC,6,none⟩=some (.slice A0_6 l0_6.length c0_6)∧aT.cell? (aK.add ((aB).toNat*2))=some (.slice A468_0 ((rd_T74 l0_3 aB).f0).length c468_0)∧aT.cell? ⟨(aK.add ((aB).toNat*2)).block,(aK.add ((aB).toNat*2)).off+1,none⟩=some (.int .i64 ((rd_T74 l0_3 aB).f1)):=hS_;refine norm_ (a':=?_) ?_ ?_;rotate_left
  ·simp only[putAll,Act.put,sa_,sb_,sc_];rfl
  refine oq_ 8 (none) 9 511 HT_ (fun K hK=>?_);have hs43:aT.cell? ⟨aD,0,none⟩=some (.slice none 0 0):=bc_ aF 0;have hfs43:=blk_frozen aF.out 0;have hs44:aT.cell? ⟨aD,1,none⟩=some (.int .i64 0):=bc_ aF 1;have hfs44:=blk_frozen aF.out 1;refine skip_ (w1:=?_) (by rfl) rfl ?_ ?_;rotate_left
  ·go_simp;rfl
  refine hK.out _ _ hm_ (fun hHeld=>?_)
  clear hK K;refine dq_ HT_ ?_;have:=cz2_ aF;have:=fz2_ aF
  try go_wp2_with (first|(refine gk_ 41 ?_;refine gd_ (some 21) Try.func41 (rillmeterref15_At.calls k _ _ ((rd_T74 l0_3 aB).f0) ((rd_T74 l0_3 aB).f1) a1 aH _ ?side1 ?side2 A6.out) ?_;(case side1=>exact Kd.C_below aU.out (bl_ HB));(case side2=>exact bO.out);intro bM hb;replace aA:=bbf_ aA hb;replace aF:=mk_ (blk_below (g:=aD) (o:=.cells #[.slice A468_0 ((rd_T74 l0_3 aB).f0).length c468_0,.int .i64 ((rd_T74 l0_3 aB).f1)] 74 (0,0)) (pt_ aF) hb);replace HB:=bs_ HB hb;(try clear hb);have:=cz7_ aA;have:=fz7_ aA)|(refine gk_ 47 ?_;refine gd_ (some 42) Try.func47 (rillmeterref11_Get.calls k a0_4 a0_5 _ _ l0_6 a1 aP _ ?side1 ?side2 cI.out) ?_;(case side1=>exact ck_ (Kd.C_below bB.out HB.out));(case side2=>exact bC.out);intro fW hb;replace aA:=bb_ aA hb;replace aF:=bb_ aF hb;replace HB:=bs_ HB hb;(try clear hb)))
  refine bodyPost_ret (results_list (rs:=[.tmp 4,.tmp 5,.tmp 6,.tmp 7]) rfl (by simp) (.tmp (.tmp (.tmp (.tmp .nil))))) rfl ?_;exact⟨er_,bl_ HB⟩
end Go.Proofs.Ytljmjjeghebdpaa.PElasticTurns
