/- What the plain programs compute, up to the law itself. -/
import Derived.Test.YtjafnaffdfaokaaGreatDoorLwF
set_option linter.unusedVariables false
set_option linter.unusedSimpArgs false
set_option maxRecDepth 20000
namespace Go.Ab
noncomputable section
theorem UZ{n:Int}(h0:0<=n)(h1:n<18446744073709551616):IntKind.wrap .u64 n=n:=by
 have e:IntKind.wrap .u64 n=n % 18446744073709551616:=rfl;rw [e]
 exact Int.emod_eq_of_lt h0 h1
theorem yZ{x:Int}(h0:0<=x)(h1:x<4294967296):QE .u64 x 4294967295=x:=by
 unfold QE;have e:(BitVec.ofInt (IntKind.bits .u64) x &&& BitVec.ofInt (IntKind.bits .u64) 4294967295).toNat=x.toNat:=by
  rw [BitVec.toNat_and,BitVec.toNat_ofInt,BitVec.toNat_ofInt];have a:(x % ((2 ^ IntKind.bits .u64:Nat):Int)).toNat=x.toNat:=by
   have:x % ((2 ^ IntKind.bits .u64:Nat):Int)=x:=Int.emod_eq_of_lt h0 (by show x<((2 ^ 64:Nat):Int);omega)
   rw [this]
  have b:((4294967295:Int) % ((2 ^ IntKind.bits .u64:Nat):Int)).toNat=2 ^ 32-1:=by decide
  rw [a,b,Nat.and_two_pow_sub_one_eq_mod];omega
 rw [e,UZ (by omega) (by omega)];omega
theorem Q9N(F:Nat){x y:Int}(hx:0<=x/\x<4294967296)(hy:0<=y/\y<4294967296):SB F x y=some (0,x*y):=by
 have k:((2:Int) ^ (min ((32:Int)).toNat (IntKind.bits .u64)))=4294967296:=by decide
 have c:0<=x*y:=Int.mul_nonneg hx.1 hy.1;have d:x*y<18446744073709551616:=by
  have e:x*y<=4294967295*y:=Int.mul_le_mul_of_nonneg_right (by omega) hy.1;omega
 have b:∀ z:Int,0<=z->z<4294967296->z.fdiv 4294967296=0:=fun z g e=>by
  rw [Int.fdiv_eq_ediv_of_nonneg _ (by omega)];exact Int.ediv_eq_zero_of_lt g e
 unfold SB;refine Q8 (by omega) (Q8 (by omega) (Q8 (by omega) (Q8 (by omega) (Q8 (by omega) ?_))))
 rw [k,yZ hx.1 hx.2,yZ hy.1 hy.2,b x hx.1 hx.2,b y hy.1 hy.2];rw [UZ c d]
 have a:0<=(x*y).fdiv 4294967296/\(x*y).fdiv 4294967296<4294967296:=by
  rw [Int.fdiv_eq_ediv_of_nonneg _ (by omega)];omega
 generalize (x*y).fdiv 4294967296=q at a;have i:IntKind.wrap .u64 (0*0)=0:=by decide
 have j:IntKind.wrap .u64 (0*y)=0:=by rw [Int.zero_mul];decide
 have h:IntKind.wrap .u64 (x*0)=0:=by rw [Int.mul_zero];decide
 have f:IntKind.wrap .u64 0=0:=by decide
 rw [i,j,h];simp only [Int.zero_add,Int.add_zero]
 rw [UZ a.1 (by omega),b q a.1 a.2,yZ a.1 a.2,UZ a.1 (by omega),b q a.1 a.2,f,Int.add_zero,f]
end
end Go.Ab
