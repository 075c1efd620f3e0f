/- Functions, each as a plain function, with the proof that a call comes to its answer. Condition of each: the arguments read as the data that it names, and the plain function has an answer. -/
import Derived.Test.YtljmjjeghebdpaaPElasticTurnsx0
import Derived.Test.YtljmjjeghebdpaaPElasticTurnsx6
import Derived.Test.YtljmjjeghebdpaaShort
import Derived.Lib.SliceRun
import Derived.Test.YtljmjjeghebdpaaFuns
import Derived.Test.YtljmjjeghebdpaaPressMore
namespace Go.Proofs.Ytljmjjeghebdpaa.PElasticTurns
open Go.RowKit Go.Proofs.YtljmjjeghebdpaaW.PrintWords Go.Proofs.YtljmjjeghebdpaaW.PrintLast Go.Proofs.YtljmjjeghebdpaaW.PrintMore Go.Proofs.Ytljmjjeghebdpaa.Short Go.Proofs.Ytljmjjeghebdpaa.Press Go.Proofs.Ytljmjjeghebdpaa.PressMore
set_option maxHeartbeats 80000000
set_option maxRecDepth 100000
attribute [local go_sem] max2_int min2_int max_two min_two max_three min_three max_four min_four
set_option linter.unusedVariables false
set_option linter.unusedSimpArgs false
mutual
def heavy_Item_77.l0:Nat→List (S68)→Int→Int→Int→Option ((List (S68)))
  |0,_,_,_,_=>none
  |k+1,a,b,c,d=>if c<d then(if 0≤(wrap64 ((IntKind.u64.wrap (wrap64 (c+d)))/2))then(if(wrap64 ((IntKind.u64.wrap (wrap64 (c+d)))/2))<(a.length:Int)then(if 0≤b then(if b<(a.length:Int)then((elastic_List_1.f k ((rd_T68 a (wrap64 ((IntKind.u64.wrap (wrap64 (c+d)))/2))).f0) ((rd_T68 a (wrap64 ((IntKind.u64.wrap (wrap64 (c+d)))/2))).f1) ((rd_T68 a b).f0) ((rd_T68 a b).f1)).bind fun t320=>(if t320<0 then(heavy_Item_77.l0 k a b (wrap64 ((wrap64 ((IntKind.u64.wrap (wrap64 (c+d)))/2))+1)) d)else(heavy_Item_77.l0 k a b c (wrap64 ((IntKind.u64.wrap (wrap64 (c+d)))/2)))))else(none))else(none))else(none))else(none))else(heavy_Item_77.l1 k a c b)
def heavy_Item_77.l1:Nat→List (S68)→Int→Int→Option ((List (S68)))
  |0,_,_,_=>none
  |k+1,a,b,c=>if c<(wrap64 (b-1))then(if 0≤(wrap64 (c+1))then(if(wrap64 (c+1))<(a.length:Int)then(if 0≤c then(if c<(a.length:Int)then(heavy_Item_77.l1 k ((a.set (c:Int).toNat (⟨(rd_T68 a (wrap64 (c+1))).f0,(rd_T68 a (wrap64 (c+1))).f1⟩:S68)).set ((wrap64 (c+1)):Int).toNat (⟨(rd_T68 a c).f0,(rd_T68 a c).f1⟩:S68)) b (wrap64 (c+1)))else(none))else(none))else(none))else(none))else(some a)
def heavy_Item_77.l2:Nat→List (S68)→Int→Int→Int→Option ((List (S68)))
  |0,_,_,_,_=>none
  |k+1,a,b,c,d=>if c<d then(if 0≤b then(if b<(a.length:Int)then(if 0≤(wrap64 ((IntKind.u64.wrap (wrap64 (c+d)))/2))then(if(wrap64 ((IntKind.u64.wrap (wrap64 (c+d)))/2))<(a.length:Int)then((elastic_List_1.f k ((rd_T68 a b).f0) ((rd_T68 a b).f1) ((rd_T68 a (wrap64 ((IntKind.u64.wrap (wrap64 (c+d)))/2))).f0) ((rd_T68 a (wrap64 ((IntKind.u64.wrap (wrap64 (c+d)))/2))).f1)).bind fun t327=>(if t327<0 then(heavy_Item_77.l2 k a b c (wrap64 ((IntKind.u64.wrap (wrap64 (c+d)))/2)))else(heavy_Item_77.l2 k a b (wrap64 ((wrap64 ((IntKind.u64.wrap (wrap64 (c+d)))/2))+1)) d)))else(none))else(none))else(none))else(none))else(heavy_Item_77.l3 k a c b)
def heavy_Item_77.l3:Nat→List (S68)→Int→Int→Option ((List (S68)))
  |0,_,_,_=>none
  |k+1,a,b,c=>if c>b then(if 0≤(wrap64 (c-1))then(if(wrap64 (c-1))<(a.length:Int)then(if 0≤c then(if c<(a.length:Int)then(heavy_Item_77.l3 k ((a.set (c:Int).toNat (⟨(rd_T68 a (wrap64 (c-1))).f0,(rd_T68 a (wrap64 (c-1))).f1⟩:S68)).set ((wrap64 (c-1)):Int).toNat (⟨(rd_T68 a c).f0,(rd_T68 a c).f1⟩:S68)) b (wrap64 (c-1)))else(none))else(none))else(none))else(none))else(some a)
def heavy_Item_77.j4:Nat→List (S68)→Int→Int→Int→Int→Int→Int→Int→Option ((List (S68)))
  |0,_,_,_,_,_,_,_,_=>none
  |k+1,a,b,c,d,e,f,g,h=>heavy_Item_77.l4 k a b c d e f g h (wrap64 (f-1))
def heavy_Item_77.l4:Nat→List (S68)→Int→Int→Int→Int→Int→Int→Int→Int→Option ((List (S68)))
  |0,_,_,_,_,_,_,_,_,_=>none
  |k+1,a,b,c,d,e,g,h,i,j=>if h<i then(if 0≤(wrap64 (j-(wrap64 ((IntKind.u64.wrap (wrap64 (h+i)))/2))))then(if(wrap64 (j-(wrap64 ((IntKind.u64.wrap (wrap64 (h+i)))/2))))<(a.length:Int)then(if 0≤(wrap64 ((IntKind.u64.wrap (wrap64 (h+i)))/2))then(if(wrap64 ((IntKind.u64.wrap (wrap64 (h+i)))/2))<(a.length:Int)then((elastic_List_1.f k ((rd_T68 a (wrap64 (j-(wrap64 ((IntKind.u64.wrap (wrap64 (h+i)))/2))))).f0) ((rd_T68 a (wrap64 (j-(wrap64 ((IntKind.u64.wrap (wrap64 (h+i)))/2))))).f1) ((rd_T68 a (wrap64 ((IntKind.u64.wrap (wrap64 (h+i)))/2))).f0) ((rd_T68 a (wrap64 ((IntKind.u64.wrap (wrap64 (h+i)))/2))).f1)).bind fun t334=>(if t334<0 then(heavy_Item_77.l4 k a b c d e g h (wrap64 ((IntKind.u64.wrap (wrap64 (h+i)))/2)) j)else(heavy_Item_77.l4 k a b c d e g (wrap64 ((wrap64 ((IntKind.u64.wrap (wrap64 (h+i)))/2))+1)) i j)))else(none))else(none))else(none))else(none))else(if h<c then(heavy_Item_77.j6 k a b c d e h (wrap64 (g-h)) (decide (c<(wrap64 (g-h)))))else(heavy_Item_77.j6 k a b c d e h (wrap64 (g-h)) false))
def heavy_Item_77.j6:Nat→List (S68)→Int→Int→Int→Int→Int→Int→Bool→Option ((List (S68)))
  |0,_,_,_,_,_,_,_,_=>none
  |k+1,a,b,c,d,e,g,h,i=>if i=true then((heavy_Item_85.f k a g c h).bind fun t335=>(heavy_Item_77.j7 k t335 b d e g h))else(heavy_Item_77.j7 k a b d e g h)
def heavy_Item_77.j7:Nat→List (S68)→Int→Int→Int→Int→Int→Option ((List (S68)))
  |0,_,_,_,_,_,_=>none
  |k+1,a,b,c,d,e,f=>if b<e then(heavy_Item_77.j8 k a b c d e f (decide (e<d)))else(heavy_Item_77.j8 k a b c d e f false)
def heavy_Item_77.j8:Nat→List (S68)→Int→Int→Int→Int→Int→Bool→Option ((List (S68)))
  |0,_,_,_,_,_,_,_=>none
  |k+1,a,b,c,d,e,g,h=>if h=true then((heavy_Item_77.f k a b e d).bind fun t336=>(if d<g then(if g<c then((heavy_Item_77.f k t336 d g c).bind fun t337=>(some t337))else(some t336))else(some t336)))else(if d<g then(if g<c then((heavy_Item_77.f k a d g c).bind fun t338=>(some t338))else(some a))else(some a))
def heavy_Item_77.f:Nat→List (S68)→Int→Int→Int→Option ((List (S68)))
  |0,_,_,_,_=>none
  |k+1,l0,a1,a2,a3=>if(wrap64 (a2-a1))=1 then(heavy_Item_77.l0 k l0 a1 a2 a3)else(if(wrap64 (a3-a2))=1 then(heavy_Item_77.l2 k l0 a2 a1 a2)else(if a2>(wrap64 ((IntKind.u64.wrap (wrap64 (a1+a3)))/2))then(heavy_Item_77.j4 k l0 a1 a2 a3 (wrap64 ((IntKind.u64.wrap (wrap64 (a1+a3)))/2)) (wrap64 ((wrap64 ((IntKind.u64.wrap (wrap64 (a1+a3)))/2))+a2)) (wrap64 ((wrap64 ((wrap64 ((IntKind.u64.wrap (wrap64 (a1+a3)))/2))+a2))-a3)) (wrap64 ((IntKind.u64.wrap (wrap64 (a1+a3)))/2)))else(heavy_Item_77.j4 k l0 a1 a2 a3 (wrap64 ((IntKind.u64.wrap (wrap64 (a1+a3)))/2)) (wrap64 ((wrap64 ((IntKind.u64.wrap (wrap64 (a1+a3)))/2))+a2)) a1 a2)))
end
theorem heavy_Item_77.mono_l:∀k,(∀y0 y1 y2 y3,LeO (heavy_Item_77.f k y0 y1 y2 y3) (heavy_Item_77.f (k+1) y0 y1 y2 y3))∧(∀y0 y1 y2 y3,LeO (heavy_Item_77.l0 k y0 y1 y2 y3) (heavy_Item_77.l0 (k+1) y0 y1 y2 y3))∧(∀y0 y1 y2,LeO (heavy_Item_77.l1 k y0 y1 y2) (heavy_Item_77.l1 (k+1) y0 y1 y2))∧(∀y0 y1 y2 y3,LeO (heavy_Item_77.l2 k y0 y1 y2 y3) (heavy_Item_77.l2 (k+1) y0 y1 y2 y3))∧(∀y0 y1 y2,LeO (heavy_Item_77.l3 k y0 y1 y2) (heavy_Item_77.l3 (k+1) y0 y1 y2))∧(∀y0 y1 y2 y3 y4 y5 y6 y7,LeO (heavy_Item_77.j4 k y0 y1 y2 y3 y4 y5 y6 y7) (heavy_Item_77.j4 (k+1) y0 y1 y2 y3 y4 y5 y6 y7))∧(∀y0 y1 y2 y3 y4 y5 y6 y7 y8,LeO (heavy_Item_77.l4 k y0 y1 y2 y3 y4 y5 y6 y7 y8) (heavy_Item_77.l4 (k+1) y0 y1 y2 y3 y4 y5 y6 y7 y8))∧(∀y0 y1 y2 y3 y4 y5 y6 y7,LeO (heavy_Item_77.j6 k y0 y1 y2 y3 y4 y5 y6 y7) (heavy_Item_77.j6 (k+1) y0 y1 y2 y3 y4 y5 y6 y7))∧(∀y0 y1 y2 y3 y4 y5,LeO (heavy_Item_77.j7 k y0 y1 y2 y3 y4 y5) (heavy_Item_77.j7 (k+1) y0 y1 y2 y3 y4 y5))∧(∀y0 y1 y2 y3 y4 y5 y6,LeO (heavy_Item_77.j8 k y0 y1 y2 y3 y4 y5 y6) (heavy_Item_77.j8 (k+1) y0 y1 y2 y3 y4 y5 y6))
  |0=>⟨fun _ _ _ _ r h=>by simp[heavy_Item_77.f]at h,fun _ _ _ _ r h=>by simp[heavy_Item_77.l0]at h,fun _ _ _ r h=>by simp[heavy_Item_77.l1]at h,fun _ _ _ _ r h=>by simp[heavy_Item_77.l2]at h,fun _ _ _ r h=>by simp[heavy_Item_77.l3]at h,fun _ _ _ _ _ _ _ _ r h=>by simp[heavy_Item_77.j4]at h,fun _ _ _ _ _ _ _ _ _ r h=>by simp[heavy_Item_77.l4]at h,fun _ _ _ _ _ _ _ _ r h=>by simp[heavy_Item_77.j6]at h,fun _ _ _ _ _ _ r h=>by simp[heavy_Item_77.j7]at h,fun _ _ _ _ _ _ _ r h=>by simp[heavy_Item_77.j8]at h⟩
  |k+1=>by
    obtain⟨ih0,ih1,ih2,ih3,ih4,ih5,ih6,ih7,ih8,ih9⟩:=heavy_Item_77.mono_l k
    refine⟨?_,?_,?_,?_,?_,?_,?_,?_,?_,?_⟩<;>intros
    all_goals first|unfold heavy_Item_77.f|unfold heavy_Item_77.l0|unfold heavy_Item_77.l1|unfold heavy_Item_77.l2|unfold heavy_Item_77.l3|unfold heavy_Item_77.j4|unfold heavy_Item_77.l4|unfold heavy_Item_77.j6|unfold heavy_Item_77.j7|unfold heavy_Item_77.j8
    all_goals repeat' with_reducible first|exact ih0 .. |exact ih1 .. |exact ih2 .. |exact ih3 .. |exact ih4 .. |exact ih5 .. |exact ih6 .. |exact ih7 .. |exact ih8 .. |exact ih9 .. |exact elastic_List_1.mono .. |exact heavy_Item_85.mono .. |exact LeO.refl _|exact LeO.none _|refine LeO.ite ?_ ?_|refine LeO.bind ?_ (fun _=>?_)
theorem heavy_Item_77.mono:∀a0 a1 a2 a3 k,LeO (heavy_Item_77.f k a0 a1 a2 a3) (heavy_Item_77.f (k+1) a0 a1 a2 a3):=by
  intro a0 a1 a2 a3 k
  obtain⟨ih0,ih1,ih2,ih3,ih4,ih5,ih6,ih7,ih8,ih9⟩:=heavy_Item_77.mono_l k
  exact ih0 a0 a1 a2 a3
def heavy_Item_77.T5:Bool × List (List Nat × List Nat):=(true,[([],[]),([],[]),([],[]),([1,2],[1,2]),([3],[3]),([],[]),([],[]),([5,6],[5,6]),([7],[7]),([0,4,8],[0,4,8]),([9],[9])])
def heavy_Item_77.B5:List Nat:=[0,0,0,6,14,0,0,96,224,511,1023]
theorem heavy_Item_77.tab5:rtab .any (opsOf Try.f77 5)=heavy_Item_77.T5:=by kernel_rfl
theorem heavy_Item_77.bits5:waitsOk heavy_Item_77.T5.2 heavy_Item_77.B5=true:=by kernel_rfl
def heavy_Item_77.T11:Bool × List (List Nat × List Nat):=(true,[([],[]),([],[]),([],[]),([],[]),([3],[3]),([],[]),([],[]),([6],[6]),([5,7],[5,7]),([8],[8]),([],[]),([],[]),([10,11],[10,11]),([12],[12]),([0,1,0,1,5,6,7,8,9,13],[0,1]),([14,9,0,1,5,6,7,8,9,13],[9,14]),([2,4,0,1,2,3,4,5,6,7,8,9,10,11,12,13,14,15],[2,4]),([16,13,15,0,1,2,3,4,5,6,7,8,9,10,11,12,13,14,15],[13,16])])
def heavy_Item_77.B11:List Nat:=[0,0,0,0,8,0,0,64,224,480,0,0,3072,7168,16355,32739,65535,131071]
theorem heavy_Item_77.tab11:rtab .any (opsOf Try.f77 11)=heavy_Item_77.T11:=by kernel_rfl
theorem heavy_Item_77.bits11:waitsOk heavy_Item_77.T11.2 heavy_Item_77.B11=true:=by kernel_rfl
def heavy_Item_77.T17:Bool × List (List Nat × List Nat):=(true,[([],[]),([],[]),([],[]),([1,2],[1,2]),([3],[3]),([],[]),([],[]),([5,6],[5,6]),([7],[7]),([0,4,8],[0,4,8]),([9],[9]),([10],[10])])
def heavy_Item_77.B17:List Nat:=[0,0,0,6,14,0,0,96,224,511,1023,2047]
theorem heavy_Item_77.tab17:rtab .any (opsOf Try.f77 17)=heavy_Item_77.T17:=by kernel_rfl
theorem heavy_Item_77.bits17:waitsOk heavy_Item_77.T17.2 heavy_Item_77.B17=true:=by kernel_rfl
def heavy_Item_77.T23:Bool × List (List Nat × List Nat):=(true,[([],[]),([],[]),([],[]),([],[]),([3],[3]),([],[]),([],[]),([6],[6]),([5,7],[5,7]),([8],[8]),([],[]),([],[]),([10,11],[10,11]),([12],[12]),([0,1,0,1,5,6,7,8,9,13],[0,1]),([14,9,0,1,5,6,7,8,9,13],[9,14]),([2,4,0,1,2,3,4,5,6,7,8,9,10,11,12,13,14,15],[2,4]),([16,13,15,0,1,2,3,4,5,6,7,8,9,10,11,12,13,14,15],[13,16])])
def heavy_Item_77.B23:List Nat:=[0,0,0,0,8,0,0,64,224,480,0,0,3072,7168,16355,32739,65535,131071]
theorem heavy_Item_77.tab23:rtab .any (opsOf Try.f77 23)=heavy_Item_77.T23:=by kernel_rfl
theorem heavy_Item_77.bits23:waitsOk heavy_Item_77.T23.2 heavy_Item_77.B23=true:=by kernel_rfl
def heavy_Item_77.T35:Bool × List (List Nat × List Nat):=(true,[([],[]),([],[]),([],[]),([],[]),([2,3],[2,3]),([1,4],[1,4]),([5],[5]),([],[]),([],[]),([7,8],[7,8]),([9],[9]),([0,6,10],[0,6,10]),([11],[11]),([12],[12])])
def heavy_Item_77.B35:List Nat:=[0,0,0,0,12,30,62,0,0,384,896,2047,4095,8191]
theorem heavy_Item_77.tab35:rtab .any (opsOf Try.f77 35)=heavy_Item_77.T35:=by kernel_rfl
theorem heavy_Item_77.bits35:waitsOk heavy_Item_77.T35.2 heavy_Item_77.B35=true:=by kernel_rfl
theorem heavy_Item_77.calls (k:Nat):∀(P0_:Nat→Prop)(u9000_:Value)(l0:List (S68))(a1 a2 a3:Int)(r:List (S68))(w0 w:World)(hB:Below w0.heap.size w0 w)(ho0:Kd.R k68 68 w w0.heap.size P0_ u9000_ l0)(h:heavy_Item_77.f k l0 a1 a2 a3=some r),
    Calls Try.prog 77 #[u9000_,.int .i64 a1,.int .i64 a2,.int .i64 a3,.func (.func 35) #[] #[]] w fun e w'=>e=.returned (.tuple #[])∧Kd.R k68 68 w' w0.heap.size (fun k_=>(P0_ k_∨w.heap.size≤k_)) u9000_ r∧Below w0.heap.size w0 w'∧Kept w w' (fun k_=>P0_ k_):=by
 induction k using Nat.strongRecOn with
 |_ k ih=>
 intro P0_ u9000_ l0 a1 a2 a3 r w0 w hB ho0 h
 cases k with
 |zero=>exact absurd h (by simp[heavy_Item_77.f])
 |succ k=>
 simp only[heavy_Item_77.f]at h;have hu68:=Try.underlying68;have gW:=mk_ (show Kd.R k68 68 w w0.heap.size (fun k_=>(P0_ k_∨w.heap.size≤k_)) u9000_ l0 from Kd.R_mono ho0 (fun k_ hk=>(.inl hk)));have HK:=mk_ (Kept.refl w (fun k_=>P0_ k_));have HW0:=mk_ hB.size;have HB:=mk_ hB;clear hB;have H:(if(wrap64 (a2-a1))=1 then(heavy_Item_77.l0 k l0 a1 a2 a3)else(if(wrap64 (a3-a2))=1 then(heavy_Item_77.l2 k l0 a2 a1 a2)else(if a2>(wrap64 ((IntKind.u64.wrap (wrap64 (a1+a3)))/2))then(heavy_Item_77.j4 k l0 a1 a2 a3 (wrap64 ((IntKind.u64.wrap (wrap64 (a1+a3)))/2)) (wrap64 ((wrap64 ((IntKind.u64.wrap (wrap64 (a1+a3)))/2))+a2)) (wrap64 ((wrap64 ((wrap64 ((IntKind.u64.wrap (wrap64 (a1+a3)))/2))+a2))-a3)) (wrap64 ((IntKind.u64.wrap (wrap64 (a1+a3)))/2)))else(heavy_Item_77.j4 k l0 a1 a2 a3 (wrap64 ((IntKind.u64.wrap (wrap64 (a1+a3)))/2)) (wrap64 ((wrap64 ((IntKind.u64.wrap (wrap64 (a1+a3)))/2))+a2)) a1 a2))))=some r:=h;clear h
 by_cases c5:(wrap64 (a2-a1))=1
 ·as_aux_lemma=>
  rw[if_pos c5]at H;have cH:=beq_iff_eq.mpr c5;have cI:=bne_eq_false_iff_eq.mpr c5;clear c5;have H':=mk_ H;clear H
  go_enter Try.func77,Try.ntmps77
  go_wp2
  go_loopg [10,11] k (fun kq iT iU w'=>∃(aH bT:Int),iT=.int .i64 aH∧iU=.int .i64 bT∧Aside0 (heavy_Item_77.l0 kq l0 a1 aH bT=some r)∧Aside0 (kq≤k)∧Aside0 (Kd.R k68 68 w' w0.heap.size (fun k_=>(P0_ k_∨w.heap.size≤k_)) u9000_ l0)∧Aside0 (Kept w w' (fun k_=>P0_ k_))∧Aside0 (Below w0.heap.size w0 w'))
  case atStart=>exact⟨(a2),(a3),eq_,eq_,H',⟨Nat.le_refl _⟩,⟨rr_ gW⟩,⟨kp_ HK⟩,⟨bl_ HB⟩⟩
  case round=>
   as_aux_lemma=>
   clear H';(try clear c5);(try clear cH);(try clear cI);obtain⟨aH,bT,rfl,rfl,HA,HK1,aA,HK,HB⟩:=hrel
   cases gk with
   |zero=>exact absurd HA.out (by simp[heavy_Item_77.l0])
   |succ k1=>
    have H:=HA.out;clear HA;simp only[heavy_Item_77.l0]at H
    rcases ic_ H with⟨dD,h_⟩|⟨dD,h_⟩
    ·clear H;have H:=h_;clear h_;obtain⟨ji7,hji7⟩:∃j_:Int,(wrap64 ((IntKind.u64.wrap (wrap64 (aH+bT)))/2))=j_:=⟨_,rfl⟩
     (first|rw[hji7]at H|simp only[hji7]at H)
     have hji7w:(IntKind.i64.wrap ((IntKind.u64.wrap (wrap64 (aH+bT)))/2))=ji7:=(i64_w _).trans hji7;replace H:=it_ H;obtain⟨dO,H⟩:=H;replace H:=it_ H;obtain⟨dP,H⟩:=H;replace H:=it_ H;obtain⟨dQ,H⟩:=H;replace H:=it_ H;obtain⟨dR,H⟩:=H;replace H:=bi_ H;obtain⟨dN,iH,H⟩:=H
     rcases ic_ H with⟨dE,h_⟩|⟨dE,h_⟩
     ·clear H;have H:=h_;clear h_;have H':=mk_ H;clear H
      try go_wp2
      replace aA:=mk_ (Kd.R_drew aA.out);replace HK:=mk_ (Kept.drew HK.out);replace HB:=bw_ HB;obtain⟨jR,jS,eo15⟩:=Kd.R_slice aA.out
      (first|subst eo15|(injection eo15 with f1_ f2_ f3_;have f4_:=f1_.symm;have f5_:=f3_.symm;clear f1_ f2_ f3_;subst f4_;subst f5_))
      obtain⟨aN,aO,aP,e318,aW,aX⟩:=aq_ (at_T68 (Kd.R_reads' aA.out).2.2 (ji7))
      cases e318;have aQ:0≤(a1:Int):=od_;have aR:a1<(l0.length:Int):=od_;obtain⟨hO,e319,aY,aZ⟩:=at_T68 (Kd.R_reads' aA.out).2.2 a1 aQ aR;obtain rfl:aP=hO:=(by injection e319);replace aQ:=eq_true aQ;replace aR:=eq_true aR;generalize hD_:wr.drew=jT at aA HK HB aW aX aY aZ;refine sx_ (n:=11) (ds:=[]) hD_ (And.intro aW (And.intro aX (And.intro aY (aZ)))) (fun hHeld=>?_);refine with_tabW heavy_Item_77.tab5 heavy_Item_77.bits5 (fun HT_ HW_=>?_);clear hD_;refine p1_ 0 1 ?_
      refine p1_ 1 3 ?_;refine p1_ 2 7 ?_;refine p1_ 3 15 ?_;refine p1_ 5 47 ?_;refine p1_ 6 111 ?_;refine p1_ 7 239 ?_;refine t1_ 4 255 ?_;refine t1_ 8 511 ?_;refine oq_ 9 (some 49) 11 1023 HT_ (fun K hK=>?_);refine Funs.goesv_ (c:=.tmp 40) Try.func35 (by kernel_rfl) rfl #[.agg #[.string ((rd_T68 l0 (ji7)).f0),.int .i64 ((rd_T68 l0 (ji7)).f1)],.agg #[.string ((rd_T68 l0 a1).f0),.int .i64 ((rd_T68 l0 a1).f1)]] (by rfl) rfl rfl (by rfl) (by(try simp only[List.map_toArray,List.map_cons,List.map_nil]);first|done|(simp only[hji7];rfl)|rfl|(simp only[List.length_drop,List.length_take];rfl)) ?_;with_reducible refine(elastic_List_1.calls k1 ((rd_T68 l0 (ji7)).f0) ((rd_T68 l0 (ji7)).f1) ((rd_T68 l0 a1).f0) ((rd_T68 l0 a1).f1) dN _ iH.out).mono ?_
      rintro e jU ⟨rfl,hb⟩;have HS0_:=bh_ hb hHeld.1;have HS1_:=bh_ hb hHeld.2.1;have HS2_:=bh_ hb hHeld.2.2.1;have HS3_:=bh_ hb hHeld.2.2.2;refine⟨_,rfl,?_⟩;replace aA:=rb_ aA hb;replace HK:=mk_ (Kept.below (S:=(fun k_=>P0_ k_)) (kp_ HK) hb);replace HB:=bs_ HB hb;(try clear hb);refine hK.out _ _ ⟨HS0_,HS1_,HS2_,HS3_⟩ (fun hHeld=>?_);clear hK K;refine nm_ 49 ?_;refine p1_ 10 2047 ?_;refine dq_ HT_ ?_
      try go_wp2
      go_roundg k1
      case measure=>have:=HK1.out;omega
      case rel=>exact⟨(wrap64 ((ji7)+1)),(bT),(by first|rfl|(simp;done)|(simp only[←hji7]<;>(first|rfl|simp))|(simp[*];done)),eq_,H',⟨by have:=HK1.out;omega⟩,⟨rr_ aA⟩,⟨kp_ HK⟩,⟨bl_ HB⟩⟩
     ·clear H;have H:=h_;clear h_;have H':=mk_ H;clear H
      try go_wp2
      replace aA:=mk_ (Kd.R_drew aA.out);replace HK:=mk_ (Kept.drew HK.out);replace HB:=bw_ HB;obtain⟨jV,jW,eo18⟩:=Kd.R_slice aA.out
      (first|subst eo18|(injection eo18 with f1_ f2_ f3_;have f4_:=f1_.symm;have f5_:=f3_.symm;clear f1_ f2_ f3_;subst f4_;subst f5_))
      obtain⟨aN,aO,aP,e318,aW,aX⟩:=aq_ (at_T68 (Kd.R_reads' aA.out).2.2 (ji7))
      cases e318;have aQ:0≤(a1:Int):=od_;have aR:a1<(l0.length:Int):=od_;obtain⟨hO,e319,aY,aZ⟩:=at_T68 (Kd.R_reads' aA.out).2.2 a1 aQ aR;obtain rfl:aP=hO:=(by injection e319);replace aQ:=eq_true aQ;replace aR:=eq_true aR;generalize hD_:wr.drew=jX at aA HK HB aW aX aY aZ;refine sx_ (n:=11) (ds:=[]) hD_ (And.intro aW (And.intro aX (And.intro aY (aZ)))) (fun hHeld=>?_);refine with_tabW heavy_Item_77.tab5 heavy_Item_77.bits5 (fun HT_ HW_=>?_);clear hD_;refine p1_ 0 1 ?_
      refine p1_ 1 3 ?_;refine p1_ 2 7 ?_;refine p1_ 3 15 ?_;refine p1_ 5 47 ?_;refine p1_ 6 111 ?_;refine p1_ 7 239 ?_;refine t1_ 4 255 ?_;refine t1_ 8 511 ?_;refine oq_ 9 (some 49) 11 1023 HT_ (fun K hK=>?_);refine Funs.goesv_ (c:=.tmp 40) Try.func35 (by kernel_rfl) rfl #[.agg #[.string ((rd_T68 l0 (ji7)).f0),.int .i64 ((rd_T68 l0 (ji7)).f1)],.agg #[.string ((rd_T68 l0 a1).f0),.int .i64 ((rd_T68 l0 a1).f1)]] (by rfl) rfl rfl (by rfl) (by(try simp only[List.map_toArray,List.map_cons,List.map_nil]);first|done|(simp only[hji7];rfl)|rfl|(simp only[List.length_drop,List.length_take];rfl)) ?_;with_reducible refine(elastic_List_1.calls k1 ((rd_T68 l0 (ji7)).f0) ((rd_T68 l0 (ji7)).f1) ((rd_T68 l0 a1).f0) ((rd_T68 l0 a1).f1) dN _ iH.out).mono ?_
      rintro e jY ⟨rfl,hb⟩;have HS0_:=bh_ hb hHeld.1;have HS1_:=bh_ hb hHeld.2.1;have HS2_:=bh_ hb hHeld.2.2.1;have HS3_:=bh_ hb hHeld.2.2.2;refine⟨_,rfl,?_⟩;replace aA:=rb_ aA hb;replace HK:=mk_ (Kept.below (S:=(fun k_=>P0_ k_)) (kp_ HK) hb);replace HB:=bs_ HB hb;(try clear hb);refine hK.out _ _ ⟨HS0_,HS1_,HS2_,HS3_⟩ (fun hHeld=>?_);clear hK K;refine nm_ 49 ?_;refine p1_ 10 2047 ?_;refine dq_ HT_ ?_
      try go_wp2
      go_roundg k1
      case measure=>have:=HK1.out;omega
      case rel=>exact⟨(aH),(ji7),eq_,(by first|rfl|(simp;done)|(simp only[←hji7]<;>(first|rfl|simp))|(simp[*];done)),H',⟨by have:=HK1.out;omega⟩,⟨rr_ aA⟩,⟨kp_ HK⟩,⟨bl_ HB⟩⟩
    ·clear H;have H:=h_;clear h_;have H':=mk_ H;clear H
     go_wp2
     go_loopg [13] k1 (fun kq iV w'=>∃(aB:List (S68))(aD:Int),iV=.int .i64 aD∧Aside0 (heavy_Item_77.l1 kq aB aH aD=some r)∧Aside0 (kq≤k1)∧Aside0 (Kd.R k68 68 w' w0.heap.size (fun k_=>(P0_ k_∨w.heap.size≤k_)) u9000_ aB)∧Aside0 (Kept w w' (fun k_=>P0_ k_))∧Aside0 (Below w0.heap.size w0 w'))
     case atStart=>exact⟨(l0),(a1),eq_,H',⟨Nat.le_refl _⟩,⟨rr_ aA⟩,⟨kp_ HK⟩,⟨bl_ HB⟩⟩
     case round=>
      as_aux_lemma=>
      clear H';(try clear c5);(try clear cH);(try clear cI);(try clear dD);obtain⟨aB,aD,rfl,HA,HK2,aA,HK,HB⟩:=hrel
      cases gk with
      |zero=>exact absurd HA.out (by simp[heavy_Item_77.l1])
      |succ k2=>
       have H:=HA.out;clear HA;simp only[heavy_Item_77.l1]at H
       rcases ic_ H with⟨dS,h_⟩|⟨dS,h_⟩
       ·clear H;have H:=h_;clear h_;obtain⟨ji21,hji21⟩:∃j_:Int,(wrap64 (aD+1))=j_:=⟨_,rfl⟩
        (first|rw[hji21]at H|simp only[hji21]at H)
        have hji21w:(IntKind.i64.wrap (aD+1))=ji21:=(i64_w _).trans hji21;(try simp only[hji21]at hji7);(try simp only[hji21]at hji7w);replace H:=it_ H;obtain⟨fL,H⟩:=H;replace H:=it_ H;obtain⟨fM,H⟩:=H;replace H:=it_ H;obtain⟨fN,H⟩:=H;replace H:=it_ H;obtain⟨fO,H⟩:=H;obtain⟨y323,hy323⟩:∃y_:List (S68),y_=(aB.set (aD:Int).toNat (⟨(rd_T68 aB (ji21)).f0,(rd_T68 aB (ji21)).f1⟩:S68)):=⟨_,rfl⟩
        (try replace H:=(Option.bind_some _ _).symm.trans H);(try rw[←hy323]at H)
        have iW:=mk_ hy323;clear hy323;obtain⟨y324,hy324⟩:∃y_:List (S68),y_=(y323.set ((ji21):Int).toNat (⟨(rd_T68 aB aD).f0,(rd_T68 aB aD).f1⟩:S68)):=⟨_,rfl⟩
        (try replace H:=(Option.bind_some _ _).symm.trans H);(try rw[←hy324]at H)
        have iX:=mk_ hy324;clear hy324;have H':=mk_ H;clear H
        try go_wp2
        replace aA:=mk_ (Kd.R_drew aA.out);replace HK:=mk_ (Kept.drew HK.out);replace HB:=bw_ HB;obtain⟨jZ,lA,eo29⟩:=Kd.R_slice aA.out
        (first|subst eo29|(injection eo29 with f1_ f2_ f3_;have f4_:=f1_.symm;have f5_:=f3_.symm;clear f1_ f2_ f3_;subst f4_;subst f5_))
        obtain⟨cJ,cK,iY,e321,cL,cM⟩:=aq_ (at_T68 (Kd.R_reads' aA.out).2.2 (ji21))
        cases e321;have cN:0≤(aD:Int):=od_;have cO:aD<(aB.length:Int):=od_;obtain⟨iZ,e322,cP,cQ⟩:=at_T68 (Kd.R_reads' aA.out).2.2 aD cN cO;obtain rfl:iY=iZ:=(by injection e322);replace cN:=eq_true cN;replace cO:=eq_true cO;have aJ:0≤(aD:Int):=od_;have aK:(aD:Int)<((aB.length:Int):Int):=od_;obtain⟨go26,lB,eo26,iI,gl26,cl26,HG26⟩:=Kd.R_form aA.out (by omega)
        (first|cases eo26|(injection eo26 with ea_ en_ ec_;(first|subst ea_|(injection ea_ with ea_;subst ea_));subst ec_;clear en_))
        have GB26:=mk_ iI;have GG26:=mk_ HG26;clear iI gl26 HG26;have HMgo26:=mk_ (show(P0_ go26∨w.heap.size≤go26)from(aA.out.1 _ rfl))
        (first|simp only[add_plain]at cL|skip)
        (first|simp only[add_plain]at cM|skip)
        (first|simp only[add_plain]at cP|skip)
        (first|simp only[add_plain]at cQ|skip)
        obtain⟨ce26,hcl26,hM26,hcc26,hfr26⟩:=Kd.R_elem aA.out z68 (aD:Int) aJ aK;obtain rfl:=k68_openM hM26;have dT:World.cell? _ ⟨go26,(aD:Int).toNat*2,none⟩=some (.string ((rd_T68 aB aD).f0)):=hcc26 0 _ rfl;have dU:World.cell? _ ⟨go26,(aD:Int).toNat*2+1,none⟩=some (.int .i64 ((rd_T68 aB aD).f1)):=hcc26 1 _ rfl;have hf26_0:World.frozen? _ ⟨go26,(aD:Int).toNat*2,none⟩=false:=hfr26 0;have hf26_1:World.frozen? _ ⟨go26,(aD:Int).toNat*2+1,none⟩=false:=hfr26 1;clear hcl26 hcc26 hfr26;(try clear hM26);replace aJ:=eq_true aJ;replace aK:=eq_true aK;obtain⟨ce30,hcl30,hM30,hcc30,hfr30⟩:=Kd.R_elem aA.out z68 (aD:Int) od_ (by have h_:(aD:Int)<((aB.length:Int):Int):=od_;first|exact h_|(have e_:=(Kd.R_reads' aA.out).1;omega)|simpa using h_);obtain rfl:=k68_openM hM30
        have HP30:=(Kd.R_seg aA.out (aD:Int) od_ (by have h_:(aD:Int)<((aB.length:Int):Int):=od_;first|exact h_|(have e_:=(Kd.R_reads' aA.out).1;omega)|simpa using h_) (seg:=[.string ((rd_T68 aB (ji21)).f0),.int .i64 ((rd_T68 aB (ji21)).f1)]) (j:=0) hcl30 hcc30 (show 2≤2 from by decide) (x':=(⟨(rd_T68 aB (ji21)).f0,(rd_T68 aB (ji21)).f1⟩:S68)) (k68_mkM _ _ _ (⟨(rd_T68 aB (ji21)).f0,(rd_T68 aB (ji21)).f1⟩:S68)) (fun _ hk=>hk)).1;rw[←iW.out]at HP30;have HQ30:=mk_ HP30;clear hcl30 hcc30 hfr30 hM30 HP30;have aL:0≤((ji21):Int):=od_;have aM:((ji21):Int)<((aB.length:Int):Int):=od_;obtain⟨ce27,hcl27,hM27,hcc27,hfr27⟩:=Kd.R_elem HQ30.out z68 ((ji21):Int) aL aM;obtain rfl:=k68_openM hM27;have bL:World.cell? _ ⟨go26,((ji21):Int).toNat*2,none⟩=some (.string ((rd_T68 y323 (ji21)).f0)):=hcc27 0 _ rfl;have bM:World.cell? _ ⟨go26,((ji21):Int).toNat*2+1,none⟩=some (.int .i64 ((rd_T68 y323 (ji21)).f1)):=hcc27 1 _ rfl;have hf27_0:World.frozen? _ ⟨go26,((ji21):Int).toNat*2,none⟩=false:=hfr27 0
        have hf27_1:World.frozen? _ ⟨go26,((ji21):Int).toNat*2+1,none⟩=false:=hfr27 1;clear hcl27 hcc27 hfr27;(try clear hM27);replace aL:=eq_true aL;replace aM:=eq_true aM;obtain⟨ce31,hcl31,hM31,hcc31,hfr31⟩:=Kd.R_elem HQ30.out z68 ((ji21):Int) od_ (by have h_:((ji21):Int)<((aB.length:Int):Int):=od_;first|exact h_|(have e_:=(Kd.R_reads' aA.out).1;omega)|simpa using h_);obtain rfl:=k68_openM hM31;have HP31:=(Kd.R_seg HQ30.out ((ji21):Int) od_ (by have h_:((ji21):Int)<((aB.length:Int):Int):=od_;first|exact h_|(have e_:=(Kd.R_reads' aA.out).1;omega)|simpa using h_) (seg:=[.string ((rd_T68 aB aD).f0),.int .i64 ((rd_T68 aB aD).f1)]) (j:=0) hcl31 hcc31 (show 2≤2 from by decide) (x':=(⟨(rd_T68 aB aD).f0,(rd_T68 aB aD).f1⟩:S68)) (k68_mkM _ _ _ (⟨(rd_T68 aB aD).f0,(rd_T68 aB aD).f1⟩:S68)) (fun _ hk=>hk)).1;rw[←iX.out]at HP31;have HQ31:=mk_ HP31;clear hcl31 hcc31 hfr31 hM31 HP31
        generalize hD_:wr.drew=lC at aA HK HB GG26 HQ30 HQ31 hf26_0 hf26_1 hf27_0 hf27_1 dT dU bL bM cL cM cP cQ;refine sx_ (n:=18) (ds:=[15,17]) hD_ (And.intro cL (And.intro cM (And.intro cP (cQ)))) (fun hHeld=>?_);refine with_tabW heavy_Item_77.tab11 heavy_Item_77.bits11 (fun HT_ HW_=>?_);clear hD_;refine p1_ 0 1 ?_;refine p1_ 1 3 ?_;refine p1_ 2 7 ?_;refine p1_ 3 15 ?_;refine p1_ 4 31 ?_;refine p1_ 5 63 ?_;refine p1_ 6 127 ?_;refine p1_ 7 255 ?_;refine p1_ 8 511 ?_;refine p1_ 10 1535 ?_;refine p1_ 11 3583 ?_;refine p1_ 12 7679 ?_;refine t1_ 9 8191 ?_;refine t1_ 13 16383 ?_;refine p1_ 14 32767 ?_
        refine last_ (i:=15) (N:=none) (mB 18 65535) rfl rfl (one_of HT_.out (by kernel_rfl)) (by decide) (fun K hK=>?_);refine skip_ (w1:=?_) (by rfl) rfl ?_ ?_;rotate_left
        ·(try have hs_0:=bL);(try have hs_1:=bM);(try have hs_0:=cR);(try have hs_1:=cS);(try have hg_0:=hf27_0);(try have hg_1:=hf27_1);(try have hg_0:=hf54_0);(try have hg_1:=hf54_1);(try simp only[World.setCells,show k68.sz=2 from rfl,Nat.add_zero]at hs_0 hs_1 hg_0 hg_1);(try rw[World.cell?_setCell_other _ _ _ _ (by intro h;simp only[Addr.mk.injEq]at h;omega)]at hs_0);(try simp only[World.frozen?_setCell]at hg_0 hg_1);go_simp;rfl
        refine hK.out _ _ ?_;clear hK K;refine p1_ 16 131071 ?_
        refine last_ (i:=17) (N:=none) (mB 18 262143) rfl rfl (one_of HT_.out (by kernel_rfl)) (by decide) (fun K hK=>?_);refine skip_ (w1:=?_) (by rfl) rfl ?_ ?_;rotate_left
        ·(try have hs_0:=bL);(try have hs_1:=bM);(try have hs_0:=cR);(try have hs_1:=cS);(try have hg_0:=hf27_0);(try have hg_1:=hf27_1);(try have hg_0:=hf54_0);(try have hg_1:=hf54_1);(try simp only[World.setCells,show k68.sz=2 from rfl,Nat.add_zero]at hs_0 hs_1 hg_0 hg_1);(try rw[World.cell?_setCell_other _ _ _ _ (by intro h;simp only[Addr.mk.injEq]at h;omega)]at hs_0);(try simp only[World.frozen?_setCell]at hg_0 hg_1);go_simp;rfl
        refine hK.out _ _ ?_;clear hK K;refine dq_ HT_ ?_
        try go_wp2
        go_roundg k2
        case measure=>have:=HK1.out;have:=HK2.out;omega
        case rel=>exact⟨(y324),(ji21),(by first|rfl|(simp;done)|(simp only[←hji21]<;>(first|rfl|simp))|(simp[*];done)),H',⟨by have:=HK1.out;have:=HK2.out;omega⟩,⟨rr_ HQ31⟩,⟨by repeat(first|(with_reducible first|exact HK.out|apply Kept.alloc|apply Kept.drewN|apply Kept.drew|refine Kept.setCell ?_ HMgo26.out _|refine Kept.setCell ?_ HMgo26.out _|refine Kept.setCell ?_ HMgo26.out _|refine Kept.setCell ?_ HMgo26.out _)|exact HK.out)⟩,⟨bl_ HB⟩⟩
       ·clear H;have H:=h_;clear h_;obtain rfl:=Option.some.inj H
        go_wp2
        first|go_end0|((try simp only[Exit.inBlock,Exit.then]);refine bodyPost_ret (results_none rfl _ _ _) rfl ?_)
        exact⟨er_,by(with_reducible repeat(first|apply Kd.R_alloc|apply Kd.R_drewN|apply Kd.R_drew));exact aA.out,bl_ HB,by repeat(first|(with_reducible first|exact HK.out|apply Kept.alloc|apply Kept.drewN|apply Kept.drew)|exact HK.out)⟩
 ·as_aux_lemma=>
  rw[if_neg c5]at H;have cH:=beq_eq_false_iff_ne.mpr c5;have cI:=bne_iff_ne.mpr c5
  by_cases aV:(wrap64 (a3-a2))=1
  ·as_aux_lemma=>
   rw[if_pos aV]at H;have dV:=beq_iff_eq.mpr aV;have dW:=bne_eq_false_iff_eq.mpr aV;clear aV;have H':=mk_ H;clear H
   go_enter Try.func77,Try.ntmps77
   go_wp2
   go_loopg [14,15] k (fun kq jA jB w'=>∃(aI bY:Int),jA=.int .i64 aI∧jB=.int .i64 bY∧Aside0 (heavy_Item_77.l2 kq l0 a2 aI bY=some r)∧Aside0 (kq≤k)∧Aside0 (Kd.R k68 68 w' w0.heap.size (fun k_=>(P0_ k_∨w.heap.size≤k_)) u9000_ l0)∧Aside0 (Kept w w' (fun k_=>P0_ k_))∧Aside0 (Below w0.heap.size w0 w'))
   case atStart=>exact⟨(a1),(a2),eq_,eq_,H',⟨Nat.le_refl _⟩,⟨rr_ gW⟩,⟨kp_ HK⟩,⟨bl_ HB⟩⟩
   case round=>
    as_aux_lemma=>
    clear H';(try clear c5);(try clear cH);(try clear cI);(try clear aV);(try clear dV);(try clear dW)
    obtain⟨aI,bY,rfl,rfl,HA,HK1,aA,HK,HB⟩:=hrel
    cases gk with
    |zero=>exact absurd HA.out (by simp[heavy_Item_77.l2])
    |succ k1=>
     have H:=HA.out;clear HA;simp only[heavy_Item_77.l2]at H
     rcases ic_ H with⟨fP,h_⟩|⟨fP,h_⟩
     ·clear H;have H:=h_;clear h_;replace H:=it_ H;obtain⟨gA,H⟩:=H;replace H:=it_ H;obtain⟨gB,H⟩:=H;obtain⟨ji36,hji36⟩:∃j_:Int,(wrap64 ((IntKind.u64.wrap (wrap64 (aI+bY)))/2))=j_:=⟨_,rfl⟩
      (first|rw[hji36]at H|simp only[hji36]at H)
      have hji36w:(IntKind.i64.wrap ((IntKind.u64.wrap (wrap64 (aI+bY)))/2))=ji36:=(i64_w _).trans hji36;(try simp only[hji36]at hji7);(try simp only[hji36]at hji7w);(try simp only[hji36]at hji21);(try simp only[hji36]at hji21w);replace H:=it_ H;obtain⟨gC,H⟩:=H;replace H:=it_ H;obtain⟨gD,H⟩:=H;replace H:=bi_ H;obtain⟨dX,iK,H⟩:=H
      rcases ic_ H with⟨fQ,h_⟩|⟨fQ,h_⟩
      ·clear H;have H:=h_;clear h_;have H':=mk_ H;clear H
       try go_wp2
       replace aA:=mk_ (Kd.R_drew aA.out);replace HK:=mk_ (Kept.drew HK.out);replace HB:=bw_ HB;obtain⟨lD,lE,eo42⟩:=Kd.R_slice aA.out
       (first|subst eo42|(injection eo42 with f1_ f2_ f3_;have f4_:=f1_.symm;have f5_:=f3_.symm;clear f1_ f2_ f3_;subst f4_;subst f5_))
       obtain⟨bB,bC,aS,e325,bZ,cA⟩:=aq_ (at_T68 (Kd.R_reads' aA.out).2.2 a2)
       cases e325;have bD:0≤((ji36):Int):=od_;have bE:(ji36)<(l0.length:Int):=od_;obtain⟨hP,e326,cB,cC⟩:=at_T68 (Kd.R_reads' aA.out).2.2 (ji36) bD bE;obtain rfl:aS=hP:=(by injection e326);replace bD:=eq_true bD;replace bE:=eq_true bE;generalize hD_:wr.drew=lF at aA HK HB bZ cA cB cC;refine sx_ (n:=12) (ds:=[]) hD_ (And.intro bZ (And.intro cA (And.intro cB (cC)))) (fun hHeld=>?_);refine with_tabW heavy_Item_77.tab17 heavy_Item_77.bits17 (fun HT_ HW_=>?_);clear hD_;refine p1_ 0 1 ?_
       refine p1_ 1 3 ?_;refine p1_ 2 7 ?_;refine p1_ 3 15 ?_;refine p1_ 5 47 ?_;refine p1_ 6 111 ?_;refine p1_ 7 239 ?_;refine t1_ 4 255 ?_;refine t1_ 8 511 ?_;refine oq_ 9 (some 101) 12 1023 HT_ (fun K hK=>?_);refine Funs.goesv_ (c:=.tmp 92) Try.func35 (by kernel_rfl) rfl #[.agg #[.string ((rd_T68 l0 a2).f0),.int .i64 ((rd_T68 l0 a2).f1)],.agg #[.string ((rd_T68 l0 (ji36)).f0),.int .i64 ((rd_T68 l0 (ji36)).f1)]] (by rfl) rfl rfl (by rfl) (by(try simp only[List.map_toArray,List.map_cons,List.map_nil]);first|done|(simp only[hji36];rfl)|rfl|(simp only[List.length_drop,List.length_take];rfl)) ?_;with_reducible refine(elastic_List_1.calls k1 ((rd_T68 l0 a2).f0) ((rd_T68 l0 a2).f1) ((rd_T68 l0 (ji36)).f0) ((rd_T68 l0 (ji36)).f1) dX _ iK.out).mono ?_
       rintro e lG ⟨rfl,hb⟩;have HS0_:=bh_ hb hHeld.1;have HS1_:=bh_ hb hHeld.2.1;have HS2_:=bh_ hb hHeld.2.2.1;have HS3_:=bh_ hb hHeld.2.2.2;refine⟨_,rfl,?_⟩;replace aA:=rb_ aA hb;replace HK:=mk_ (Kept.below (S:=(fun k_=>P0_ k_)) (kp_ HK) hb);replace HB:=bs_ HB hb;(try clear hb);refine hK.out _ _ ⟨HS0_,HS1_,HS2_,HS3_⟩ (fun hHeld=>?_);clear hK K;refine nm_ 101 ?_;refine p1_ 10 2047 ?_;refine p1_ 11 4095 ?_;refine dq_ HT_ ?_
       try go_wp2
       go_roundg k1
       case measure=>have:=HK1.out;omega
       case rel=>exact⟨(aI),(ji36),eq_,(by first|rfl|(simp;done)|(simp only[←hji36]<;>(first|rfl|simp))|(simp[*];done)),H',⟨by have:=HK1.out;omega⟩,⟨rr_ aA⟩,⟨kp_ HK⟩,⟨bl_ HB⟩⟩
      ·clear H;have H:=h_;clear h_;have H':=mk_ H;clear H
       try go_wp2
       replace aA:=mk_ (Kd.R_drew aA.out);replace HK:=mk_ (Kept.drew HK.out);replace HB:=bw_ HB;obtain⟨lH,lI,eo45⟩:=Kd.R_slice aA.out
       (first|subst eo45|(injection eo45 with f1_ f2_ f3_;have f4_:=f1_.symm;have f5_:=f3_.symm;clear f1_ f2_ f3_;subst f4_;subst f5_))
       obtain⟨bB,bC,aS,e325,bZ,cA⟩:=aq_ (at_T68 (Kd.R_reads' aA.out).2.2 a2)
       cases e325;have bD:0≤((ji36):Int):=od_;have bE:(ji36)<(l0.length:Int):=od_;obtain⟨hP,e326,cB,cC⟩:=at_T68 (Kd.R_reads' aA.out).2.2 (ji36) bD bE;obtain rfl:aS=hP:=(by injection e326);replace bD:=eq_true bD;replace bE:=eq_true bE;generalize hD_:wr.drew=lJ at aA HK HB bZ cA cB cC;refine sx_ (n:=12) (ds:=[]) hD_ (And.intro bZ (And.intro cA (And.intro cB (cC)))) (fun hHeld=>?_);refine with_tabW heavy_Item_77.tab17 heavy_Item_77.bits17 (fun HT_ HW_=>?_);clear hD_;refine p1_ 0 1 ?_
       refine p1_ 1 3 ?_;refine p1_ 2 7 ?_;refine p1_ 3 15 ?_;refine p1_ 5 47 ?_;refine p1_ 6 111 ?_;refine p1_ 7 239 ?_;refine t1_ 4 255 ?_;refine t1_ 8 511 ?_;refine oq_ 9 (some 101) 12 1023 HT_ (fun K hK=>?_);refine Funs.goesv_ (c:=.tmp 92) Try.func35 (by kernel_rfl) rfl #[.agg #[.string ((rd_T68 l0 a2).f0),.int .i64 ((rd_T68 l0 a2).f1)],.agg #[.string ((rd_T68 l0 (ji36)).f0),.int .i64 ((rd_T68 l0 (ji36)).f1)]] (by rfl) rfl rfl (by rfl) (by(try simp only[List.map_toArray,List.map_cons,List.map_nil]);first|done|(simp only[hji36];rfl)|rfl|(simp only[List.length_drop,List.length_take];rfl)) ?_;with_reducible refine(elastic_List_1.calls k1 ((rd_T68 l0 a2).f0) ((rd_T68 l0 a2).f1) ((rd_T68 l0 (ji36)).f0) ((rd_T68 l0 (ji36)).f1) dX _ iK.out).mono ?_
       rintro e lK ⟨rfl,hb⟩;have HS0_:=bh_ hb hHeld.1;have HS1_:=bh_ hb hHeld.2.1;have HS2_:=bh_ hb hHeld.2.2.1;have HS3_:=bh_ hb hHeld.2.2.2;refine⟨_,rfl,?_⟩;replace aA:=rb_ aA hb;replace HK:=mk_ (Kept.below (S:=(fun k_=>P0_ k_)) (kp_ HK) hb);replace HB:=bs_ HB hb;(try clear hb);refine hK.out _ _ ⟨HS0_,HS1_,HS2_,HS3_⟩ (fun hHeld=>?_);clear hK K;refine nm_ 101 ?_;refine p1_ 10 2047 ?_;refine p1_ 11 4095 ?_;refine dq_ HT_ ?_
       try go_wp2
       go_roundg k1
       case measure=>have:=HK1.out;omega
       case rel=>exact⟨(wrap64 ((ji36)+1)),(bY),(by first|rfl|(simp;done)|(simp only[←hji36]<;>(first|rfl|simp))|(simp[*];done)),eq_,H',⟨by have:=HK1.out;omega⟩,⟨rr_ aA⟩,⟨kp_ HK⟩,⟨bl_ HB⟩⟩
     ·clear H;have H:=h_;clear h_;have H':=mk_ H;clear H
      go_wp2
      go_loopg [17] k1 (fun kq jC w'=>∃(aB:List (S68))(aE:Int),jC=.int .i64 aE∧Aside0 (heavy_Item_77.l3 kq aB aI aE=some r)∧Aside0 (kq≤k1)∧Aside0 (Kd.R k68 68 w' w0.heap.size (fun k_=>(P0_ k_∨w.heap.size≤k_)) u9000_ aB)∧Aside0 (Kept w w' (fun k_=>P0_ k_))∧Aside0 (Below w0.heap.size w0 w'))
      case atStart=>exact⟨(l0),(a2),eq_,H',⟨Nat.le_refl _⟩,⟨rr_ aA⟩,⟨kp_ HK⟩,⟨bl_ HB⟩⟩
      case round=>
       as_aux_lemma=>
       clear H';(try clear c5);(try clear cH);(try clear cI);(try clear aV);(try clear dV);(try clear dW);(try clear fP)
       obtain⟨aB,aE,rfl,HA,HK2,aA,HK,HB⟩:=hrel
       cases gk with
       |zero=>exact absurd HA.out (by simp[heavy_Item_77.l3])
       |succ k2=>
        have H:=HA.out;clear HA;simp only[heavy_Item_77.l3]at H
        by_cases cD:aE>aI
        ·as_aux_lemma=>
         rw[if_pos cD]at H;have gE:decide (aI<aE)=true:=decide_eq_true cD;clear cD;obtain⟨ji48,hji48⟩:∃j_:Int,(wrap64 (aE-1))=j_:=⟨_,rfl⟩
         (first|rw[hji48]at H|simp only[hji48]at H)
         have hji48w:(IntKind.i64.wrap (aE-1))=ji48:=(i64_w _).trans hji48;(try simp only[hji48]at hji7);(try simp only[hji48]at hji7w);(try simp only[hji48]at hji21);(try simp only[hji48]at hji21w);(try simp only[hji48]at hji36);(try simp only[hji48]at hji36w);replace H:=it_ H;obtain⟨gR,H⟩:=H;replace H:=it_ H;obtain⟨gS,H⟩:=H;replace H:=it_ H;obtain⟨gT,H⟩:=H;replace H:=it_ H;obtain⟨gU,H⟩:=H;obtain⟨y330,hy330⟩:∃y_:List (S68),y_=(aB.set (aE:Int).toNat (⟨(rd_T68 aB (ji48)).f0,(rd_T68 aB (ji48)).f1⟩:S68)):=⟨_,rfl⟩
         (try replace H:=(Option.bind_some _ _).symm.trans H);(try rw[←hy330]at H)
         have jD:=mk_ hy330;clear hy330;obtain⟨y331,hy331⟩:∃y_:List (S68),y_=(y330.set ((ji48):Int).toNat (⟨(rd_T68 aB aE).f0,(rd_T68 aB aE).f1⟩:S68)):=⟨_,rfl⟩
         (try replace H:=(Option.bind_some _ _).symm.trans H);(try rw[←hy331]at H)
         have jE:=mk_ hy331;clear hy331;have H':=mk_ H;clear H
         try go_wp2
         replace aA:=mk_ (Kd.R_drew aA.out);replace HK:=mk_ (Kept.drew HK.out);replace HB:=bw_ HB;obtain⟨lL,lM,eo56⟩:=Kd.R_slice aA.out
         (first|subst eo56|(injection eo56 with f1_ f2_ f3_;have f4_:=f1_.symm;have f5_:=f3_.symm;clear f1_ f2_ f3_;subst f4_;subst f5_))
         obtain⟨dY,dZ,jF,e328,fA,fB⟩:=aq_ (at_T68 (Kd.R_reads' aA.out).2.2 (ji48))
         cases e328;have fC:0≤(aE:Int):=od_;have fD:aE<(aB.length:Int):=od_;obtain⟨jG,e329,fE,fF⟩:=at_T68 (Kd.R_reads' aA.out).2.2 aE fC fD;obtain rfl:jF=jG:=(by injection e329);replace fC:=eq_true fC;replace fD:=eq_true fD;have bF:0≤(aE:Int):=od_;have bG:(aE:Int)<((aB.length:Int):Int):=od_;obtain⟨go53,lN,eo53,iL,gl53,cl53,HG53⟩:=Kd.R_form aA.out (by omega)
         (first|cases eo53|(injection eo53 with ea_ en_ ec_;(first|subst ea_|(injection ea_ with ea_;subst ea_));subst ec_;clear en_))
         have GB53:=mk_ iL;have GG53:=mk_ HG53;clear iL gl53 HG53;have HMgo53:=mk_ (show(P0_ go53∨w.heap.size≤go53)from(aA.out.1 _ rfl))
         (first|simp only[add_plain]at fA|skip)
         (first|simp only[add_plain]at fB|skip)
         (first|simp only[add_plain]at fE|skip)
         (first|simp only[add_plain]at fF|skip)
         obtain⟨ce53,hcl53,hM53,hcc53,hfr53⟩:=Kd.R_elem aA.out z68 (aE:Int) bF bG;obtain rfl:=k68_openM hM53;have gF:World.cell? _ ⟨go53,(aE:Int).toNat*2,none⟩=some (.string ((rd_T68 aB aE).f0)):=hcc53 0 _ rfl;have gG:World.cell? _ ⟨go53,(aE:Int).toNat*2+1,none⟩=some (.int .i64 ((rd_T68 aB aE).f1)):=hcc53 1 _ rfl;have hf53_0:World.frozen? _ ⟨go53,(aE:Int).toNat*2,none⟩=false:=hfr53 0;have hf53_1:World.frozen? _ ⟨go53,(aE:Int).toNat*2+1,none⟩=false:=hfr53 1;clear hcl53 hcc53 hfr53;(try clear hM53);replace bF:=eq_true bF;replace bG:=eq_true bG;obtain⟨ce57,hcl57,hM57,hcc57,hfr57⟩:=Kd.R_elem aA.out z68 (aE:Int) od_ (by have h_:(aE:Int)<((aB.length:Int):Int):=od_;first|exact h_|(have e_:=(Kd.R_reads' aA.out).1;omega)|simpa using h_);obtain rfl:=k68_openM hM57
         have HP57:=(Kd.R_seg aA.out (aE:Int) od_ (by have h_:(aE:Int)<((aB.length:Int):Int):=od_;first|exact h_|(have e_:=(Kd.R_reads' aA.out).1;omega)|simpa using h_) (seg:=[.string ((rd_T68 aB (ji48)).f0),.int .i64 ((rd_T68 aB (ji48)).f1)]) (j:=0) hcl57 hcc57 (show 2≤2 from by decide) (x':=(⟨(rd_T68 aB (ji48)).f0,(rd_T68 aB (ji48)).f1⟩:S68)) (k68_mkM _ _ _ (⟨(rd_T68 aB (ji48)).f0,(rd_T68 aB (ji48)).f1⟩:S68)) (fun _ hk=>hk)).1;rw[←jD.out]at HP57;have HQ57:=mk_ HP57;clear hcl57 hcc57 hfr57 hM57 HP57;have bH:0≤((ji48):Int):=od_;have bI:((ji48):Int)<((aB.length:Int):Int):=od_;obtain⟨ce54,hcl54,hM54,hcc54,hfr54⟩:=Kd.R_elem HQ57.out z68 ((ji48):Int) bH bI;obtain rfl:=k68_openM hM54;have cR:World.cell? _ ⟨go53,((ji48):Int).toNat*2,none⟩=some (.string ((rd_T68 y330 (ji48)).f0)):=hcc54 0 _ rfl;have cS:World.cell? _ ⟨go53,((ji48):Int).toNat*2+1,none⟩=some (.int .i64 ((rd_T68 y330 (ji48)).f1)):=hcc54 1 _ rfl;have hf54_0:World.frozen? _ ⟨go53,((ji48):Int).toNat*2,none⟩=false:=hfr54 0
         have hf54_1:World.frozen? _ ⟨go53,((ji48):Int).toNat*2+1,none⟩=false:=hfr54 1;clear hcl54 hcc54 hfr54;(try clear hM54);replace bH:=eq_true bH;replace bI:=eq_true bI;obtain⟨ce58,hcl58,hM58,hcc58,hfr58⟩:=Kd.R_elem HQ57.out z68 ((ji48):Int) od_ (by have h_:((ji48):Int)<((aB.length:Int):Int):=od_;first|exact h_|(have e_:=(Kd.R_reads' aA.out).1;omega)|simpa using h_);obtain rfl:=k68_openM hM58;have HP58:=(Kd.R_seg HQ57.out ((ji48):Int) od_ (by have h_:((ji48):Int)<((aB.length:Int):Int):=od_;first|exact h_|(have e_:=(Kd.R_reads' aA.out).1;omega)|simpa using h_) (seg:=[.string ((rd_T68 aB aE).f0),.int .i64 ((rd_T68 aB aE).f1)]) (j:=0) hcl58 hcc58 (show 2≤2 from by decide) (x':=(⟨(rd_T68 aB aE).f0,(rd_T68 aB aE).f1⟩:S68)) (k68_mkM _ _ _ (⟨(rd_T68 aB aE).f0,(rd_T68 aB aE).f1⟩:S68)) (fun _ hk=>hk)).1;rw[←jE.out]at HP58;have HQ58:=mk_ HP58;clear hcl58 hcc58 hfr58 hM58 HP58
         generalize hD_:wr.drew=lO at aA HK HB GG53 HQ57 HQ58 hf53_0 hf53_1 hf54_0 hf54_1 fA fB fE fF gF gG cR cS;refine sx_ (n:=18) (ds:=[15,17]) hD_ (And.intro fA (And.intro fB (And.intro fE (fF)))) (fun hHeld=>?_);refine with_tabW heavy_Item_77.tab23 heavy_Item_77.bits23 (fun HT_ HW_=>?_);clear hD_;refine p1_ 0 1 ?_;refine p1_ 1 3 ?_;refine p1_ 2 7 ?_;refine p1_ 3 15 ?_;refine p1_ 4 31 ?_;refine p1_ 5 63 ?_;refine p1_ 6 127 ?_;refine p1_ 7 255 ?_;refine p1_ 8 511 ?_;refine p1_ 10 1535 ?_;refine p1_ 11 3583 ?_;refine p1_ 12 7679 ?_;refine t1_ 9 8191 ?_;refine t1_ 13 16383 ?_;refine p1_ 14 32767 ?_
         refine last_ (i:=15) (N:=none) (mB 18 65535) rfl rfl (one_of HT_.out (by kernel_rfl)) (by decide) (fun K hK=>?_);refine skip_ (w1:=?_) (by rfl) rfl ?_ ?_;rotate_left
         ·(try have hs_0:=bL);(try have hs_1:=bM);(try have hs_0:=cR);(try have hs_1:=cS);(try have hg_0:=hf27_0);(try have hg_1:=hf27_1);(try have hg_0:=hf54_0);(try have hg_1:=hf54_1);(try simp only[World.setCells,show k68.sz=2 from rfl,Nat.add_zero]at hs_0 hs_1 hg_0 hg_1);(try rw[World.cell?_setCell_other _ _ _ _ (by intro h;simp only[Addr.mk.injEq]at h;omega)]at hs_0);(try simp only[World.frozen?_setCell]at hg_0 hg_1);go_simp;rfl
         refine hK.out _ _ ?_;clear hK K;refine p1_ 16 131071 ?_
         refine last_ (i:=17) (N:=none) (mB 18 262143) rfl rfl (one_of HT_.out (by kernel_rfl)) (by decide) (fun K hK=>?_);refine skip_ (w1:=?_) (by rfl) rfl ?_ ?_;rotate_left
         ·(try have hs_0:=bL);(try have hs_1:=bM);(try have hs_0:=cR);(try have hs_1:=cS);(try have hg_0:=hf27_0);(try have hg_1:=hf27_1);(try have hg_0:=hf54_0);(try have hg_1:=hf54_1);(try simp only[World.setCells,show k68.sz=2 from rfl,Nat.add_zero]at hs_0 hs_1 hg_0 hg_1);(try rw[World.cell?_setCell_other _ _ _ _ (by intro h;simp only[Addr.mk.injEq]at h;omega)]at hs_0);(try simp only[World.frozen?_setCell]at hg_0 hg_1);go_simp;rfl
         refine hK.out _ _ ?_;clear hK K;refine dq_ HT_ ?_
         try go_wp2
         go_roundg k2
         case measure=>have:=HK1.out;have:=HK2.out;omega
         case rel=>exact⟨(y331),(ji48),(by first|rfl|(simp;done)|(simp only[←hji48]<;>(first|rfl|simp))|(simp[*];done)),H',⟨by have:=HK1.out;have:=HK2.out;omega⟩,⟨rr_ HQ58⟩,⟨by repeat(first|(with_reducible first|exact HK.out|apply Kept.alloc|apply Kept.drewN|apply Kept.drew|refine Kept.setCell ?_ HMgo53.out _|refine Kept.setCell ?_ HMgo53.out _|refine Kept.setCell ?_ HMgo53.out _|refine Kept.setCell ?_ HMgo53.out _)|exact HK.out)⟩,⟨bl_ HB⟩⟩
        ·rw[if_neg cD]at H;have gE:decide (aI<aE)=false:=decide_eq_false cD;clear cD;obtain rfl:=Option.some.inj H
         go_wp2
         first|go_end0|((try simp only[Exit.inBlock,Exit.then]);refine bodyPost_ret (results_none rfl _ _ _) rfl ?_)
         exact⟨er_,by(with_reducible repeat(first|apply Kd.R_alloc|apply Kd.R_drewN|apply Kd.R_drew));exact aA.out,bl_ HB,by repeat(first|(with_reducible first|exact HK.out|apply Kept.alloc|apply Kept.drewN|apply Kept.drew)|exact HK.out)⟩
  ·as_aux_lemma=>
   rw[if_neg aV]at H;have dV:=beq_eq_false_iff_ne.mpr aV;have dW:=bne_iff_ne.mpr aV;have HC59:=mk_ H;clear H
   go_enter Try.func77,Try.ntmps77
   go_upto_if 140 with(fail)
   go_cut [20,21] (fun hQ hR wc=>∃(kq:Nat)(gX gY:Int),hQ=.int .i64 gX∧hR=.int .i64 gY∧Aside0 (heavy_Item_77.j4 kq l0 a1 a2 a3 (wrap64 ((IntKind.u64.wrap (wrap64 (a1+a3)))/2)) (wrap64 ((wrap64 ((IntKind.u64.wrap (wrap64 (a1+a3)))/2))+a2)) gX gY=some r)∧Aside0 (kq≤k)∧Aside0 (Kd.R k68 68 wc w0.heap.size (fun k_=>(P0_ k_∨w.heap.size≤k_)) u9000_ l0)∧Aside0 (Kept w wc (fun k_=>P0_ k_))∧Aside0 (Below w0.heap.size w0 wc))
   case first=>
    have H:=HC59.out;clear HC59
    by_cases cE:a2>(wrap64 ((IntKind.u64.wrap (wrap64 (a1+a3)))/2))
    ·rw[if_pos cE]at H;have cX:decide ((wrap64 ((IntKind.u64.wrap (wrap64 (a1+a3)))/2))<a2)=true:=decide_eq_true cE;clear cE
     (first|rw[cX]|(simp only[i64_w,i32_w];rw[cX])|skip)
     have H':=mk_ H;clear H
     go_wp2
     go_meet
     case rel=>exact⟨_,(wrap64 ((wrap64 ((wrap64 ((IntKind.u64.wrap (wrap64 (a1+a3)))/2))+a2))-a3)),(wrap64 ((IntKind.u64.wrap (wrap64 (a1+a3)))/2)),eq_,eq_,H',⟨by first|omega|exact Nat.le_refl _⟩,⟨rr_ gW⟩,⟨kp_ HK⟩,⟨bl_ HB⟩⟩
    ·rw[if_neg cE]at H;have cX:decide ((wrap64 ((IntKind.u64.wrap (wrap64 (a1+a3)))/2))<a2)=false:=decide_eq_false cE;clear cE
     (first|rw[cX]|(simp only[i64_w,i32_w];rw[cX])|skip)
     have H':=mk_ H;clear H
     go_wp2
     go_meet
     case rel=>exact⟨_,(a1),(a2),eq_,eq_,H',⟨by first|omega|exact Nat.le_refl _⟩,⟨rr_ gW⟩,⟨kp_ HK⟩,⟨bl_ HB⟩⟩
   case rest=>
    as_aux_lemma=>
    clear HC59;(try clear c5);(try clear cH);(try clear cI);(try clear aV);(try clear dV);(try clear dW)
    obtain⟨kq,gX,gY,rfl,rfl,HA,HJ58,aA,HK,HB⟩:=hcut
    cases kq with
    |zero=>exact absurd HA.out (by simp[heavy_Item_77.j4])
    |succ iM=>
     have H:=HA.out;clear HA;simp only[heavy_Item_77.j4]at H;have H':=mk_ H;clear H
     go_wp2
     go_loopg [20,21] iM (fun kq hQ hR w'=>∃(aC aG:Int),hQ=.int .i64 aC∧hR=.int .i64 aG∧Aside0 (heavy_Item_77.l4 kq l0 a1 a2 a3 (wrap64 ((IntKind.u64.wrap (wrap64 (a1+a3)))/2)) (wrap64 ((wrap64 ((IntKind.u64.wrap (wrap64 (a1+a3)))/2))+a2)) aC aG (wrap64 ((wrap64 ((wrap64 ((IntKind.u64.wrap (wrap64 (a1+a3)))/2))+a2))-1))=some r)∧Aside0 (kq≤iM)∧Aside0 (Kd.R k68 68 w' w0.heap.size (fun k_=>(P0_ k_∨w.heap.size≤k_)) u9000_ l0)∧Aside0 (Kept w w' (fun k_=>P0_ k_))∧Aside0 (Below w0.heap.size w0 w'))
     case atStart=>exact⟨(gX),(gY),eq_,eq_,H',⟨Nat.le_refl _⟩,⟨rr_ aA⟩,⟨kp_ HK⟩,⟨bl_ HB⟩⟩
     case round=>
      as_aux_lemma=>
      clear H';(try clear c5);(try clear cH);(try clear cI);(try clear aV);(try clear dV);(try clear dW)
      (try clear bF);(try clear bH);(try clear bG);(try clear bI);obtain⟨aC,aG,rfl,rfl,HA,HK2,aA,HK,HB⟩:=hrel
      cases gk with
      |zero=>exact absurd HA.out (by simp[heavy_Item_77.l4])
      |succ k2=>
       have H:=HA.out;clear HA;simp only[heavy_Item_77.l4]at H
       rcases ic_ H with⟨hE,h_⟩|⟨hE,h_⟩
       ·clear H;have H:=h_;clear h_;obtain⟨ji62,hji62⟩:∃j_:Int,(wrap64 ((wrap64 ((wrap64 ((wrap64 ((IntKind.u64.wrap (wrap64 (a1+a3)))/2))+a2))-1))-(wrap64 ((IntKind.u64.wrap (wrap64 (aC+aG)))/2))))=j_:=⟨_,rfl⟩
        (first|rw[hji62]at H|simp only[hji62]at H)
        have hji62w:(IntKind.i64.wrap ((wrap64 ((wrap64 ((wrap64 ((IntKind.u64.wrap (wrap64 (a1+a3)))/2))+a2))-1))-(wrap64 ((IntKind.u64.wrap (wrap64 (aC+aG)))/2))))=ji62:=(i64_w _).trans hji62;(try simp only[hji62]at hji7);(try simp only[hji62]at hji7w);(try simp only[hji62]at hji21);(try simp only[hji62]at hji21w);(try simp only[hji62]at hji36);(try simp only[hji62]at hji36w);(try simp only[hji62]at hji48);(try simp only[hji62]at hji48w);replace H:=it_ H;obtain⟨hS,H⟩:=H;replace H:=it_ H;obtain⟨hT,H⟩:=H;obtain⟨ji65,hji65⟩:∃j_:Int,(wrap64 ((IntKind.u64.wrap (wrap64 (aC+aG)))/2))=j_:=⟨_,rfl⟩
        (first|rw[hji65]at H|simp only[hji65]at H)
        have hji65w:(IntKind.i64.wrap ((IntKind.u64.wrap (wrap64 (aC+aG)))/2))=ji65:=(i64_w _).trans hji65;(try simp only[hji65]at hji7);(try simp only[hji65]at hji7w);(try simp only[hji65]at hji21);(try simp only[hji65]at hji21w);(try simp only[hji65]at hji36);(try simp only[hji65]at hji36w);(try simp only[hji65]at hji48);(try simp only[hji65]at hji48w);(try simp only[hji65]at hji62);(try simp only[hji65]at hji62w);replace H:=it_ H;obtain⟨hU,H⟩:=H;replace H:=it_ H;obtain⟨hV,H⟩:=H;replace H:=bi_ H;obtain⟨cY,iO,H⟩:=H
        rcases ic_ H with⟨hF,h_⟩|⟨hF,h_⟩
        ·clear H;have H:=h_;clear h_;have H':=mk_ H;clear H
         try go_wp2
         replace aA:=mk_ (Kd.R_drew aA.out);replace HK:=mk_ (Kept.drew HK.out);replace HB:=bw_ HB;obtain⟨lP,lQ,eo71⟩:=Kd.R_slice aA.out
         (first|subst eo71|(injection eo71 with f1_ f2_ f3_;have f4_:=f1_.symm;have f5_:=f3_.symm;clear f1_ f2_ f3_;subst f4_;subst f5_))
         obtain⟨cZ,dA,aT,e332,fG,fH⟩:=aq_ (at_T68 (Kd.R_reads' aA.out).2.2 (ji62))
         cases e332;have dB:0≤((ji65):Int):=od_;have dC:(ji65)<(l0.length:Int):=od_;obtain⟨hW,e333,fI,fJ⟩:=at_T68 (Kd.R_reads' aA.out).2.2 (ji65) dB dC;obtain rfl:aT=hW:=(by injection e333);replace dB:=eq_true dB;replace dC:=eq_true dC;generalize hD_:wr.drew=lR at aA HK HB fG fH fI fJ;refine sx_ (n:=14) (ds:=[]) hD_ (And.intro fG (And.intro fH (And.intro fI (fJ)))) (fun hHeld=>?_);refine with_tabW heavy_Item_77.tab35 heavy_Item_77.bits35 (fun HT_ HW_=>?_);clear hD_;refine p1_ 0 1 ?_
         refine p1_ 1 3 ?_;refine p1_ 2 7 ?_;refine p1_ 3 15 ?_;refine p1_ 4 31 ?_;refine p1_ 5 63 ?_;refine p1_ 7 191 ?_;refine p1_ 8 447 ?_;refine p1_ 9 959 ?_;refine t1_ 6 1023 ?_;refine t1_ 10 2047 ?_;refine oq_ 11 (some 169) 14 4095 HT_ (fun K hK=>?_);refine Funs.goesv_ (c:=.tmp 158) Try.func35 (by kernel_rfl) rfl #[.agg #[.string ((rd_T68 l0 (ji62)).f0),.int .i64 ((rd_T68 l0 (ji62)).f1)],.agg #[.string ((rd_T68 l0 (ji65)).f0),.int .i64 ((rd_T68 l0 (ji65)).f1)]] (by rfl) rfl rfl (by rfl) (by(try simp only[List.map_toArray,List.map_cons,List.map_nil]);first|done|(simp only[hji62,hji65];rfl)|rfl|(simp only[List.length_drop,List.length_take];rfl)) ?_;with_reducible refine(elastic_List_1.calls k2 ((rd_T68 l0 (ji62)).f0) ((rd_T68 l0 (ji62)).f1) ((rd_T68 l0 (ji65)).f0) ((rd_T68 l0 (ji65)).f1) cY _ iO.out).mono ?_
         rintro e lS ⟨rfl,hb⟩;have HS0_:=bh_ hb hHeld.1;have HS1_:=bh_ hb hHeld.2.1;have HS2_:=bh_ hb hHeld.2.2.1;have HS3_:=bh_ hb hHeld.2.2.2;refine⟨_,rfl,?_⟩;replace aA:=rb_ aA hb;replace HK:=mk_ (Kept.below (S:=(fun k_=>P0_ k_)) (kp_ HK) hb);replace HB:=bs_ HB hb;(try clear hb);refine hK.out _ _ ⟨HS0_,HS1_,HS2_,HS3_⟩ (fun hHeld=>?_);clear hK K;refine nm_ 169 ?_;refine p1_ 12 8191 ?_;refine p1_ 13 16383 ?_;refine dq_ HT_ ?_
         try go_wp2
         go_roundg k2
         case measure=>have:=HJ58.out;have:=HK2.out;omega
         case rel=>exact⟨(aC),(ji65),eq_,(by first|rfl|(simp;done)|(simp only[←hji65]<;>(first|rfl|simp))|(simp[*];done)),H',⟨by have:=HJ58.out;have:=HK2.out;omega⟩,⟨rr_ aA⟩,⟨kp_ HK⟩,⟨bl_ HB⟩⟩
        ·clear H;have H:=h_;clear h_;have H':=mk_ H;clear H
         try go_wp2
         replace aA:=mk_ (Kd.R_drew aA.out);replace HK:=mk_ (Kept.drew HK.out);replace HB:=bw_ HB;obtain⟨lT,lU,eo74⟩:=Kd.R_slice aA.out
         (first|subst eo74|(injection eo74 with f1_ f2_ f3_;have f4_:=f1_.symm;have f5_:=f3_.symm;clear f1_ f2_ f3_;subst f4_;subst f5_))
         obtain⟨cZ,dA,aT,e332,fG,fH⟩:=aq_ (at_T68 (Kd.R_reads' aA.out).2.2 (ji62))
         cases e332;have dB:0≤((ji65):Int):=od_;have dC:(ji65)<(l0.length:Int):=od_;obtain⟨hW,e333,fI,fJ⟩:=at_T68 (Kd.R_reads' aA.out).2.2 (ji65) dB dC;obtain rfl:aT=hW:=(by injection e333);replace dB:=eq_true dB;replace dC:=eq_true dC;generalize hD_:wr.drew=lV at aA HK HB fG fH fI fJ;refine sx_ (n:=14) (ds:=[]) hD_ (And.intro fG (And.intro fH (And.intro fI (fJ)))) (fun hHeld=>?_);refine with_tabW heavy_Item_77.tab35 heavy_Item_77.bits35 (fun HT_ HW_=>?_);clear hD_;refine p1_ 0 1 ?_
         refine p1_ 1 3 ?_;refine p1_ 2 7 ?_;refine p1_ 3 15 ?_;refine p1_ 4 31 ?_;refine p1_ 5 63 ?_;refine p1_ 7 191 ?_;refine p1_ 8 447 ?_;refine p1_ 9 959 ?_;refine t1_ 6 1023 ?_;refine t1_ 10 2047 ?_;refine oq_ 11 (some 169) 14 4095 HT_ (fun K hK=>?_);refine Funs.goesv_ (c:=.tmp 158) Try.func35 (by kernel_rfl) rfl #[.agg #[.string ((rd_T68 l0 (ji62)).f0),.int .i64 ((rd_T68 l0 (ji62)).f1)],.agg #[.string ((rd_T68 l0 (ji65)).f0),.int .i64 ((rd_T68 l0 (ji65)).f1)]] (by rfl) rfl rfl (by rfl) (by(try simp only[List.map_toArray,List.map_cons,List.map_nil]);first|done|(simp only[hji62,hji65];rfl)|rfl|(simp only[List.length_drop,List.length_take];rfl)) ?_;with_reducible refine(elastic_List_1.calls k2 ((rd_T68 l0 (ji62)).f0) ((rd_T68 l0 (ji62)).f1) ((rd_T68 l0 (ji65)).f0) ((rd_T68 l0 (ji65)).f1) cY _ iO.out).mono ?_
         rintro e lW ⟨rfl,hb⟩;have HS0_:=bh_ hb hHeld.1;have HS1_:=bh_ hb hHeld.2.1;have HS2_:=bh_ hb hHeld.2.2.1;have HS3_:=bh_ hb hHeld.2.2.2;refine⟨_,rfl,?_⟩;replace aA:=rb_ aA hb;replace HK:=mk_ (Kept.below (S:=(fun k_=>P0_ k_)) (kp_ HK) hb);replace HB:=bs_ HB hb;(try clear hb);refine hK.out _ _ ⟨HS0_,HS1_,HS2_,HS3_⟩ (fun hHeld=>?_);clear hK K;refine nm_ 169 ?_;refine p1_ 12 8191 ?_;refine p1_ 13 16383 ?_;refine dq_ HT_ ?_
         try go_wp2
         go_roundg k2
         case measure=>have:=HJ58.out;have:=HK2.out;omega
         case rel=>exact⟨(wrap64 ((ji65)+1)),(aG),(by first|rfl|(simp;done)|(simp only[←hji65]<;>(first|rfl|simp))|(simp[*];done)),eq_,H',⟨by have:=HJ58.out;have:=HK2.out;omega⟩,⟨rr_ aA⟩,⟨kp_ HK⟩,⟨bl_ HB⟩⟩
       ·clear H;have H:=h_;clear h_;have HC76:=mk_ H;clear H
        go_upto_region 39 with(fail)
        go_cut [185] (fun jH wc=>∃(kq:Nat)(hG:Bool),jH=.bool hG∧Aside0 (heavy_Item_77.j6 kq l0 a1 a2 a3 (wrap64 ((IntKind.u64.wrap (wrap64 (a1+a3)))/2)) aC (wrap64 ((wrap64 ((wrap64 ((IntKind.u64.wrap (wrap64 (a1+a3)))/2))+a2))-aC)) hG=some r)∧Aside0 (kq≤k2)∧Aside0 (Kd.R k68 68 wc w0.heap.size (fun k_=>(P0_ k_∨w.heap.size≤k_)) u9000_ l0)∧Aside0 (Kept w wc (fun k_=>P0_ k_))∧Aside0 (Below w0.heap.size w0 wc))
        case first=>
         have H:=HC76.out;clear HC76
         rcases ic_ H with⟨fK,h_⟩|⟨fK,h_⟩
         ·clear H;have H:=h_;clear h_
          (first|rw[fK]|(simp only[i64_w,i32_w];rw[fK])|skip)
          have H':=mk_ H;clear H
          go_wp2
          go_meet
          case rel=>exact⟨_,(decide (a2<(wrap64 ((wrap64 ((wrap64 ((IntKind.u64.wrap (wrap64 (a1+a3)))/2))+a2))-aC)))),eq_,H',⟨by have:=HJ58.out;have:=HK2.out;first|omega|exact Nat.le_refl _⟩,⟨rr_ aA⟩,⟨kp_ HK⟩,⟨bl_ HB⟩⟩
         ·clear H;have H:=h_;clear h_
          (first|rw[fK]|(simp only[i64_w,i32_w];rw[fK])|skip)
          have H':=mk_ H;clear H
          go_wp2
          go_meet
          case rel=>exact⟨_,(false),eq_,H',⟨by have:=HJ58.out;have:=HK2.out;first|omega|exact Nat.le_refl _⟩,⟨rr_ aA⟩,⟨kp_ HK⟩,⟨bl_ HB⟩⟩
        case rest=>
         as_aux_lemma=>
         clear HC76;(try clear c5);(try clear cH);(try clear cI);(try clear aV);(try clear dV);(try clear dW)
         (try clear bF);(try clear bG);(try clear bH);(try clear bI);(try clear hE);(try clear bF);(try clear bH)
         (try clear bG);(try clear bI);obtain⟨kq,hG,rfl,HA,HJ75,aA,HK,HB⟩:=hcut
         cases kq with
         |zero=>exact absurd HA.out (by simp[heavy_Item_77.j6])
         |succ gH=>
          have H:=HA.out;clear HA;simp only[heavy_Item_77.j6]at H;have HC78:=mk_ H;clear H
          go_upto_if 185 with(fail)
          go_cut [] (fun wc=>∃(kq:Nat)(aF:List (S68)),Aside0 (heavy_Item_77.j7 kq aF a1 a3 (wrap64 ((IntKind.u64.wrap (wrap64 (a1+a3)))/2)) aC (wrap64 ((wrap64 ((wrap64 ((IntKind.u64.wrap (wrap64 (a1+a3)))/2))+a2))-aC))=some r)∧Aside0 (kq≤gH)∧Aside0 (Kd.R k68 68 wc w0.heap.size (fun k_=>(P0_ k_∨w.heap.size≤k_)) u9000_ aF)∧Aside0 (Kept w wc (fun k_=>P0_ k_))∧Aside0 (Below w0.heap.size w0 wc))
          case first=>
           have H:=HC78.out;clear HC78
           by_cases gI:hG=true
           ·subst gI
            rw[if_pos rfl]at H;replace H:=bi_ H;obtain⟨gV,jI,H⟩:=H;have H':=mk_ H;clear H;obtain⟨hX,hY,eo81⟩:=Kd.R_slice aA.out;subst eo81
            go_wp2_with (first|(refine gk_ 85 ?_;refine gc_ (some 191) Try.func85 (heavy_Item_85.calls gH (fun k_=>some k_=(.slice hX l0.length hY:Value).ownBlock) (.slice hX l0.length hY) l0 aC a2 (wrap64 ((wrap64 ((wrap64 ((IntKind.u64.wrap (wrap64 (a1+a3)))/2))+a2))-aC)) gV w0 _ ?side1 ?side2 jI.out) ?_;(case side1=>exact bl_ HB);(case side2=>exact Kd.R_tight rfl aA.out);rintro e lX ⟨rfl,hy0,hb,hkp⟩;refine⟨_,rfl,?_⟩;replace HK:=mk_ (Kept.then_ (S:=(fun k_=>P0_ k_)) (kp_ HK) hkp (fun k_ cF=>(fun e_=>(aA.out.1 k_ e_.symm)) cF));replace aA:=mk_ (Kd.R_reok rfl hy0 (fun k_ e_=>aA.out.1 k_ e_));replace HB:=mk_ (hb);(try clear hb);(try clear hkp);(try clear hy0)))
            go_meet
            case rel=>exact⟨_,(gV),H',⟨by have:=HJ58.out;have:=HK2.out;have:=HJ75.out;first|omega|exact Nat.le_refl _⟩,⟨rr_ aA⟩,⟨kp_ HK⟩,⟨bl_ HB⟩⟩
           ·replace gI:=Bool.eq_false_iff.mpr gI;subst gI
            rw[if_neg (show¬(false=true)by decide)]at H;have H':=mk_ H;clear H
            go_wp2
            go_meet
            case rel=>exact⟨_,(l0),H',⟨by have:=HJ58.out;have:=HK2.out;have:=HJ75.out;first|omega|exact Nat.le_refl _⟩,⟨rr_ aA⟩,⟨kp_ HK⟩,⟨bl_ HB⟩⟩
          case rest=>
           as_aux_lemma=>
           clear HC78;(try clear c5);(try clear cH);(try clear cI);(try clear aV);(try clear dV);(try clear dW)
           (try clear bF);(try clear bG);(try clear bH);(try clear bI);(try clear hE)
           (try clear bF);(try clear bH);(try clear bG);(try clear bI);obtain⟨kq,aF,HA,HJ77,aA,HK,HB⟩:=hcut
           cases kq with
           |zero=>exact absurd HA.out (by simp[heavy_Item_77.j7])
           |succ jJ=>
            have H:=HA.out;clear HA;simp only[heavy_Item_77.j7]at H;have HC83:=mk_ H;clear H
            go_upto_region 41 with(fail)
            go_cut [199] (fun jK wc=>∃(kq:Nat)(hL:Bool),jK=.bool hL∧Aside0 (heavy_Item_77.j8 kq aF a1 a3 (wrap64 ((IntKind.u64.wrap (wrap64 (a1+a3)))/2)) aC (wrap64 ((wrap64 ((wrap64 ((IntKind.u64.wrap (wrap64 (a1+a3)))/2))+a2))-aC)) hL=some r)∧Aside0 (kq≤jJ)∧Aside0 (Kd.R k68 68 wc w0.heap.size (fun k_=>(P0_ k_∨w.heap.size≤k_)) u9000_ aF)∧Aside0 (Kept w wc (fun k_=>P0_ k_))∧Aside0 (Below w0.heap.size w0 wc))
            case first=>
             have H:=HC83.out;clear HC83
             rcases ic_ H with⟨gJ,h_⟩|⟨gJ,h_⟩
             ·clear H;have H:=h_;clear h_
              (first|rw[gJ]|(simp only[i64_w,i32_w];rw[gJ])|skip)
              have H':=mk_ H;clear H
              go_wp2
              go_meet
              case rel=>exact⟨_,(decide (aC<(wrap64 ((IntKind.u64.wrap (wrap64 (a1+a3)))/2)))),eq_,H',⟨by have:=HJ58.out;have:=HK2.out;have:=HJ75.out;have:=HJ77.out;first|omega|exact Nat.le_refl _⟩,⟨rr_ aA⟩,⟨kp_ HK⟩,⟨bl_ HB⟩⟩
             ·clear H;have H:=h_;clear h_
              (first|rw[gJ]|(simp only[i64_w,i32_w];rw[gJ])|skip)
              have H':=mk_ H;clear H
              go_wp2
              go_meet
              case rel=>exact⟨_,(false),eq_,H',⟨by have:=HJ58.out;have:=HK2.out;have:=HJ75.out;have:=HJ77.out;first|omega|exact Nat.le_refl _⟩,⟨rr_ aA⟩,⟨kp_ HK⟩,⟨bl_ HB⟩⟩
            case rest=>
             as_aux_lemma=>
             clear HC83;(try clear c5);(try clear cH);(try clear cI);(try clear aV);(try clear dV);(try clear dW)
             (try clear bF);(try clear bG);(try clear bH);(try clear bI);(try clear hE)
             (try clear bF);(try clear bH);(try clear bG);(try clear bI);obtain⟨kq,hL,rfl,HA,HJ82,aA,HK,HB⟩:=hcut
             cases kq with
             |zero=>exact absurd HA.out (by simp[heavy_Item_77.j8])
             |succ dM=>
              have H:=HA.out;clear HA;simp only[heavy_Item_77.j8]at H
              by_cases hM:hL=true
              ·subst hM
               rw[if_pos rfl]at H;replace H:=bi_ H;obtain⟨cG,hZ,H⟩:=H
               rcases ic_ H with⟨jL,h_⟩|⟨jL,h_⟩
               ·clear H;have H:=h_;clear h_
                rcases ic_ H with⟨jM,h_⟩|⟨jM,h_⟩
                ·clear H;have H:=h_;clear h_;replace H:=bi_ H;obtain⟨gK,jN,H⟩:=H;obtain rfl:=Option.some.inj H;obtain⟨gN,gO,eo90⟩:=Kd.R_slice aA.out;subst eo90
                 go_wp2_with (first|(refine gk_ 77 ?_;refine gc_ (some 205) Try.func77 (ih dM (by have:=HJ58.out;have:=HK2.out;have:=HJ75.out;have:=HJ77.out;have:=HJ82.out;omega) (fun k_=>some k_=(.slice gN aF.length gO:Value).ownBlock) (.slice gN aF.length gO) aF a1 aC (wrap64 ((IntKind.u64.wrap (wrap64 (a1+a3)))/2)) cG w0 _ ?side1 ?side2 hZ.out) ?_;(case side1=>exact bl_ HB);(case side2=>exact Kd.R_tight rfl aA.out);rintro e lY ⟨rfl,hy0,hb,hkp⟩;refine⟨_,rfl,?_⟩;replace HK:=mk_ (Kept.then_ (S:=(fun k_=>P0_ k_)) (kp_ HK) hkp (fun k_ cF=>(fun e_=>(aA.out.1 k_ e_.symm)) cF));replace aA:=mk_ (Kd.R_reok rfl hy0 (fun k_ e_=>aA.out.1 k_ e_));replace HB:=mk_ (hb);(try clear hb);(try clear hkp);(try clear hy0))|(refine gk_ 77 ?_;refine gc_ (some 219) Try.func77 (ih dM (by have:=HJ58.out;have:=HK2.out;have:=HJ75.out;have:=HJ77.out;have:=HJ82.out;omega) (fun k_=>some k_=(.slice gN aF.length gO:Value).ownBlock) (.slice gN aF.length gO) cG (wrap64 ((IntKind.u64.wrap (wrap64 (a1+a3)))/2)) (wrap64 ((wrap64 ((wrap64 ((IntKind.u64.wrap (wrap64 (a1+a3)))/2))+a2))-aC)) a3 gK w0 _ ?side1 ?side2 jN.out) ?_;(case side1=>exact bl_ HB);(case side2=>exact Kd.R_tight rfl aA.out);rintro e lZ ⟨rfl,hy0,hb,hkp⟩;refine⟨_,rfl,?_⟩;replace HK:=mk_ (Kept.then_ (S:=(fun k_=>P0_ k_)) (kp_ HK) hkp (fun k_ cF=>(fun e_=>(aA.out.1 k_ e_.symm)) cF));replace aA:=mk_ (Kd.R_reok rfl hy0 (fun k_ e_=>aA.out.1 k_ e_));replace HB:=mk_ (hb);(try clear hb);(try clear hkp);(try clear hy0)))
                 first|go_end0|((try simp only[Exit.inBlock,Exit.then]);refine bodyPost_ret (results_none rfl _ _ _) rfl ?_)
                 exact⟨er_,by(with_reducible repeat(first|apply Kd.R_alloc|apply Kd.R_drewN|apply Kd.R_drew));exact aA.out,bl_ HB,by repeat(first|(with_reducible first|exact HK.out|apply Kept.alloc|apply Kept.drewN|apply Kept.drew)|exact HK.out)⟩
                ·clear H;have H:=h_;clear h_;obtain rfl:=Option.some.inj H;obtain⟨iA,iB,eo93⟩:=Kd.R_slice aA.out;subst eo93
                 go_wp2_with (first|(refine gk_ 77 ?_;refine gc_ (some 205) Try.func77 (ih dM (by have:=HJ58.out;have:=HK2.out;have:=HJ75.out;have:=HJ77.out;have:=HJ82.out;omega) (fun k_=>some k_=(.slice iA aF.length iB:Value).ownBlock) (.slice iA aF.length iB) aF a1 aC (wrap64 ((IntKind.u64.wrap (wrap64 (a1+a3)))/2)) cG w0 _ ?side1 ?side2 hZ.out) ?_;(case side1=>exact bl_ HB);(case side2=>exact Kd.R_tight rfl aA.out);rintro e mA ⟨rfl,hy0,hb,hkp⟩;refine⟨_,rfl,?_⟩;replace HK:=mk_ (Kept.then_ (S:=(fun k_=>P0_ k_)) (kp_ HK) hkp (fun k_ cF=>(fun e_=>(aA.out.1 k_ e_.symm)) cF));replace aA:=mk_ (Kd.R_reok rfl hy0 (fun k_ e_=>aA.out.1 k_ e_));replace HB:=mk_ (hb);(try clear hb);(try clear hkp);(try clear hy0)))
                 first|go_end0|((try simp only[Exit.inBlock,Exit.then]);refine bodyPost_ret (results_none rfl _ _ _) rfl ?_)
                 exact⟨er_,by(with_reducible repeat(first|apply Kd.R_alloc|apply Kd.R_drewN|apply Kd.R_drew));exact aA.out,bl_ HB,by repeat(first|(with_reducible first|exact HK.out|apply Kept.alloc|apply Kept.drewN|apply Kept.drew)|exact HK.out)⟩
               ·clear H;have H:=h_;clear h_;obtain rfl:=Option.some.inj H;obtain⟨iC,iD,eo95⟩:=Kd.R_slice aA.out;subst eo95
                go_wp2_with (first|(refine gk_ 77 ?_;refine gc_ (some 205) Try.func77 (ih dM (by have:=HJ58.out;have:=HK2.out;have:=HJ75.out;have:=HJ77.out;have:=HJ82.out;omega) (fun k_=>some k_=(.slice iC aF.length iD:Value).ownBlock) (.slice iC aF.length iD) aF a1 aC (wrap64 ((IntKind.u64.wrap (wrap64 (a1+a3)))/2)) cG w0 _ ?side1 ?side2 hZ.out) ?_;(case side1=>exact bl_ HB);(case side2=>exact Kd.R_tight rfl aA.out);rintro e mC ⟨rfl,hy0,hb,hkp⟩;refine⟨_,rfl,?_⟩;replace HK:=mk_ (Kept.then_ (S:=(fun k_=>P0_ k_)) (kp_ HK) hkp (fun k_ cF=>(fun e_=>(aA.out.1 k_ e_.symm)) cF));replace aA:=mk_ (Kd.R_reok rfl hy0 (fun k_ e_=>aA.out.1 k_ e_));replace HB:=mk_ (hb);(try clear hb);(try clear hkp);(try clear hy0)))
                first|go_end0|((try simp only[Exit.inBlock,Exit.then]);refine bodyPost_ret (results_none rfl _ _ _) rfl ?_)
                exact⟨er_,by(with_reducible repeat(first|apply Kd.R_alloc|apply Kd.R_drewN|apply Kd.R_drew));exact aA.out,bl_ HB,by repeat(first|(with_reducible first|exact HK.out|apply Kept.alloc|apply Kept.drewN|apply Kept.drew)|exact HK.out)⟩
              ·replace hM:=Bool.eq_false_iff.mpr hM;subst hM
               rw[if_neg (show¬(false=true)by decide)]at H
               rcases ic_ H with⟨jO,h_⟩|⟨jO,h_⟩
               ·clear H;have H:=h_;clear h_
                rcases ic_ H with⟨jP,h_⟩|⟨jP,h_⟩
                ·clear H;have H:=h_;clear h_;replace H:=bi_ H;obtain⟨hN,jQ,H⟩:=H;obtain rfl:=Option.some.inj H;obtain⟨iE,iF,eo100⟩:=Kd.R_slice aA.out;subst eo100
                 go_wp2_with (first|(refine gk_ 77 ?_;refine gc_ (some 219) Try.func77 (ih dM (by have:=HJ58.out;have:=HK2.out;have:=HJ75.out;have:=HJ77.out;have:=HJ82.out;omega) (fun k_=>some k_=(.slice iE aF.length iF:Value).ownBlock) (.slice iE aF.length iF) aF (wrap64 ((IntKind.u64.wrap (wrap64 (a1+a3)))/2)) (wrap64 ((wrap64 ((wrap64 ((IntKind.u64.wrap (wrap64 (a1+a3)))/2))+a2))-aC)) a3 hN w0 _ ?side1 ?side2 jQ.out) ?_;(case side1=>exact bl_ HB);(case side2=>exact Kd.R_tight rfl aA.out);rintro e mD ⟨rfl,hy0,hb,hkp⟩;refine⟨_,rfl,?_⟩;replace HK:=mk_ (Kept.then_ (S:=(fun k_=>P0_ k_)) (kp_ HK) hkp (fun k_ cF=>(fun e_=>(aA.out.1 k_ e_.symm)) cF));replace aA:=mk_ (Kd.R_reok rfl hy0 (fun k_ e_=>aA.out.1 k_ e_));replace HB:=mk_ (hb);(try clear hb);(try clear hkp);(try clear hy0)))
                 first|go_end0|((try simp only[Exit.inBlock,Exit.then]);refine bodyPost_ret (results_none rfl _ _ _) rfl ?_)
                 exact⟨er_,by(with_reducible repeat(first|apply Kd.R_alloc|apply Kd.R_drewN|apply Kd.R_drew));exact aA.out,bl_ HB,by repeat(first|(with_reducible first|exact HK.out|apply Kept.alloc|apply Kept.drewN|apply Kept.drew)|exact HK.out)⟩
                ·clear H;have H:=h_;clear h_;obtain rfl:=Option.some.inj H
                 go_wp2
                 first|go_end0|((try simp only[Exit.inBlock,Exit.then]);refine bodyPost_ret (results_none rfl _ _ _) rfl ?_)
                 exact⟨er_,by(with_reducible repeat(first|apply Kd.R_alloc|apply Kd.R_drewN|apply Kd.R_drew));exact aA.out,bl_ HB,by repeat(first|(with_reducible first|exact HK.out|apply Kept.alloc|apply Kept.drewN|apply Kept.drew)|exact HK.out)⟩
               ·clear H;have H:=h_;clear h_;obtain rfl:=Option.some.inj H
                go_wp2
                first|go_end0|((try simp only[Exit.inBlock,Exit.then]);refine bodyPost_ret (results_none rfl _ _ _) rfl ?_)
                exact⟨er_,by(with_reducible repeat(first|apply Kd.R_alloc|apply Kd.R_drewN|apply Kd.R_drew));exact aA.out,bl_ HB,by repeat(first|(with_reducible first|exact HK.out|apply Kept.alloc|apply Kept.drewN|apply Kept.drew)|exact HK.out)⟩
end Go.Proofs.Ytljmjjeghebdpaa.PElasticTurns
