/- Words on numbers of 64 bits: masks, wraps, the two halves of a product. The conditions stand in each lemma. -/
import Derived.Laws.BitsLemmas
import Derived.RowKit
namespace Go.Proofs.Ytljmjjeghebdpaa.Bits
open Go Go.RowKit
set_option linter.unusedSimpArgs false
theorem wrap_u64 (n:Int):IntKind.u64.wrap n=n%18446744073709551616:=by simp[IntKind.wrap,IntKind.bits,IntKind.signed]
theorem wraps_u64 (n:Int)(h₀:0≤n)(h₁:n<2 ^ 64):IntKind.u64.wrap n=n:=by rw[wrap_u64];omega
theorem u64_in (n:Int)(h₀:0≤n)(h₁:n<18446744073709551616):IntKind.u64.wrap n=n:=by rw[wrap_u64];omega
theorem i64_in (n:Int)(h₀: -9223372036854775808≤n)(h₁:n<9223372036854775808):wrap64 n=n:=by unfold wrap64;omega
theorem and_p (x:Int)(h₀:0≤x)(h₁:x<18446744073709551616):Go.bits .and .u64 x 2305843009213693951=x%2305843009213693952:=
  bits_mask .u64 64 (by decide) wraps_u64 61 (by decide) x h₀ h₁
theorem and_32 (x:Int)(h₀:0≤x)(h₁:x<18446744073709551616):Go.bits .and .u64 x 4294967295=x%4294967296:=
  bits_mask .u64 64 (by decide) wraps_u64 32 (by decide) x h₀ h₁
theorem and_1 (x:Int)(h₀:0≤x)(h₁:x<18446744073709551616):Go.bits .and .u64 x 1=x%2:=
  bits_mask .u64 64 (by decide) wraps_u64 1 (by decide) x h₀ h₁
theorem or_3 (x y:Int)(h₀:0≤x)(h₁:x<8)(g₀:0≤y)(g₁:y<18446744073709551616)(g:y%8=0):Go.bits .or .u64 x y=y+x:=by
  have e:=bits_join .u64 64 (by decide) wraps_u64 3 y x g₀ g g₁ h₀ h₁ (by omega)
  rw[←e]
  simp only[Go.bits,BitVec.or_comm]
theorem or_8 (x y:Int)(h₀:0≤x)(h₁:x<18446744073709551616)(g:x%256=0)(g₀:0≤y)(g₁:y<256):Go.bits .or .u64 x y=x+y:=
  bits_join .u64 64 (by decide) wraps_u64 8 x y h₀ g h₁ g₀ g₁ (by omega)
theorem u64_wf {a:Int}(h:(Lit.int .u64 a).wf=true):0≤a∧a<18446744073709551616:=by
  simp[Lit.wf,IntKind.min,IntKind.max,IntKind.bits,IntKind.signed]at h
  omega
theorem u32_wf {a:Int}(h:(Lit.int .u32 a).wf=true):0≤a∧a<4294967296:=by
  simp[Lit.wf,IntKind.min,IntKind.max,IntKind.bits,IntKind.signed]at h
  omega
theorem i32_wf {a:Int}(h:(Lit.int .i32 a).wf=true): -2147483648≤a∧a<2147483648:=by
  simp[Lit.wf,IntKind.min,IntKind.max,IntKind.bits,IntKind.signed]at h
  omega
theorem i64_wf {a:Int}(h:(Lit.int .i64 a).wf=true): -9223372036854775808≤a∧a<9223372036854775808:=by
  simp[Lit.wf,IntKind.min,IntKind.max,IntKind.bits,IntKind.signed]at h
  omega
theorem halves (a b:Int):a*b=(a/4294967296)*(b/4294967296)*18446744073709551616+((a/4294967296)*(b%4294967296)+(a%4294967296)*(b/4294967296))*4294967296+(a%4294967296)*(b%4294967296):=by
  have ha:a=4294967296*(a/4294967296)+a%4294967296:=by omega
  have hb:b=4294967296*(b/4294967296)+b%4294967296:=by omega
  generalize a/4294967296=x at *
  generalize a%4294967296=y at *
  generalize b/4294967296=u at *
  generalize b%4294967296=v at *
  subst ha hb
  grind
theorem mul_bd {a b:Int}(h₀:0≤a)(h₁:a≤4294967295)(g₀:0≤b)(g₁:b≤4294967295):0≤a*b∧a*b≤18446744065119617025:=
  ⟨Int.mul_nonneg h₀ g₀,by have:=Int.mul_le_mul h₁ g₁ g₀ (by omega);omega⟩
theorem pow_emod (x:Int)(n:Nat)(p:Int):(x%p) ^ n%p=x ^ n%p:=by
  induction n with
  |zero=>rw[Int.pow_zero,Int.pow_zero]
  |succ n ih=>rw[Int.pow_succ,Int.pow_succ,Int.mul_emod,ih,Int.emod_emod,←Int.mul_emod]
end Go.Proofs.Ytljmjjeghebdpaa.Bits
