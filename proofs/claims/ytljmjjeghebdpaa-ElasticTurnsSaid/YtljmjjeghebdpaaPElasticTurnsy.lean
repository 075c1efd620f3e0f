/- The one pure statement of the law ElasticTurns, and how its arguments are opened. No condition. -/
import Derived.Test.YtljmjjeghebdpaaPElasticTurnsx14
import Derived.Test.YtljmjjeghebdpaaOpenZ
import Derived.KernelRfl
namespace Go.Proofs.Ytljmjjeghebdpaa.PElasticTurns
open Go Go.RowKit Go.Proofs.YtljmjjeghebdpaaW.PrintWords Go.Proofs.Ytljmjjeghebdpaa.OpenZ
open Go.Proofs.Ytljmjjeghebdpaa.Open (list_one list_2 list_3 list_4 list_5 list_6 list_7 list_8 list_9 list_10 list_11 list_12)
def rillmeterlaw15_ElasticTurns.Pure:Prop:=∀(a0_0 a0_1 a0_2:Int)(l0_3:List S56)(a0_4 a0_5:Int)(l0_6:List (List Int))(a1:ByteArray)(a2:Int),(Lit.int .u64 a0_0).wf=true→(Lit.int .i64 a0_1).wf=true→(Lit.int .i64 a0_2).wf=true→(l0_3.length*32≤140737488351232∧∀y0∈l0_3,((y0.f0.length*32≤140737488351232∧∀y1∈y0.f0,(y1.f0.size≤140737488351232∧(Lit.int .i64 y1.f1).wf=true∧True))∧(Lit.int .i64 y0.f1).wf=true))→(Lit.int .u64 a0_4).wf=true→(Lit.int .i64 a0_5).wf=true→(l0_6.length*24≤140737488351232∧∀y0∈l0_6,(y0.length*8≤140737488351232∧∀y1∈y0,(Lit.int .i64 y1).wf=true))→a1.size≤140737488351232→(Lit.int .i64 a2).wf=true→∃k,rillmeterlaw15_ElasticTurns.f k a0_0 a0_1 a0_2 l0_3 a0_4 a0_5 l0_6 a1 a2=some true
theorem opens_T76 {H:Type}{enc:TypeId × Value→H}{W:World}:Opens enc Try.prog W 76 k76 (fun x=>(x.f0.size≤140737488351232∧(Lit.int .i64 x.f1).wf=true∧True)):=by
  intro fuel cs x h
  obtain⟨hl,n,hf⟩:=fields_of Try.underlying76 h
  obtain⟨c0,c1,c2,rfl⟩:=list_3 (hl.trans (by kernel_rfl:Try.prog.cellsOf 76=3))
  obtain⟨z0,e0⟩:=field_at hf 0 rfl (ty:=9) (off:=0) (sz:=1) rfl rfl (by kernel_rfl)
  obtain⟨y0,k0_,o0⟩:=(opens_string Try.underlying9) n _ _ e0
  obtain⟨z1,e1⟩:=field_at hf 1 rfl (ty:=3) (off:=1) (sz:=1) rfl rfl (by kernel_rfl)
  obtain⟨y1,k1_,o1⟩:=(opens_int Try.underlying3) n _ _ e1
  obtain⟨z2,e2⟩:=field_at hf 2 rfl (ty:=4) (off:=2) (sz:=1) rfl rfl (by kernel_rfl)
  obtain⟨y2,k2_,o2⟩:=(opens_bool Try.underlying4) n _ _ e2
  exact⟨⟨y0,y1,y2⟩,⟨_,_,rfl,k0_,⟨_,_,rfl,k1_,k2_⟩⟩,⟨o0,o1,o2⟩⟩
theorem opens_T56 {H:Type}{enc:TypeId × Value→H}{W:World}:Opens enc Try.prog W 56 k56 (fun x=>((x.f0.length*32≤140737488351232∧∀y0∈x.f0,(y0.f0.size≤140737488351232∧(Lit.int .i64 y0.f1).wf=true∧True))∧(Lit.int .i64 x.f1).wf=true)):=by
  intro fuel cs x h
  obtain⟨hl,n,hf⟩:=fields_of Try.underlying56 h
  obtain⟨c0,c1,rfl⟩:=list_2 (hl.trans (by kernel_rfl:Try.prog.cellsOf 56=2))
  obtain⟨z0,e0⟩:=field_at hf 0 rfl (ty:=54) (off:=0) (sz:=1) rfl rfl (by kernel_rfl)
  obtain⟨y0,k0_,o0⟩:=(opens_slice Try.underlying54 (by kernel_rfl) (B:=32) (by kernel_rfl) opens_T76) n _ _ e0
  obtain⟨z1,e1⟩:=field_at hf 1 rfl (ty:=3) (off:=1) (sz:=1) rfl rfl (by kernel_rfl)
  obtain⟨y1,k1_,o1⟩:=(opens_int Try.underlying3) n _ _ e1
  exact⟨⟨y0,y1⟩,⟨_,_,rfl,k0_,k1_⟩,⟨o0,o1⟩⟩
end Go.Proofs.Ytljmjjeghebdpaa.PElasticTurns
