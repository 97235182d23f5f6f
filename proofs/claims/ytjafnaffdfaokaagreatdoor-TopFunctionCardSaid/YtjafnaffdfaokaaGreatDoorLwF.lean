/- What the plain programs compute, up to the law itself. -/
import Derived.Test.YtjafnaffdfaokaaGreatDoorLwB
set_option linter.unusedVariables false
set_option linter.unusedSimpArgs false
set_option maxRecDepth 20000
namespace Go.Ab
noncomputable section
theorem Q5C{F:Nat}(hF:Q7<=F){l:List Int}{q:Int->Option Bool}(p:Int->Bool)(hl:l.length<=1000000000)(hq:∀ r ∈ l,q r=some (p r)):Me F l q=some (QB p l):=by
 unfold Q7 at hF;unfold Me
 refine K9 (fun z:Int=>∃ i:Nat,z=i/\i<=l.length/\∀ j,j<i->p (gl l j)=false) (fun z=>l.length-z.toNat) (fun c z f g=>?_) ⟨0,rfl,by omega,fun j m=>by omega⟩ (by simp;omega);obtain ⟨i,rfl,n,d⟩:=f
 unfold ki;refine Z6 (fun h=>?_) (fun h=>?_)
 .have h:i<l.length:=by simpa using h
  refine Q9 (k:=?_);refine Q3 (hq _ (J7 h)) ?_
  simp only [Int.toNat_natCast];refine Z6 (fun a=>?_) (fun a=>?_)
  .have b:l.any p=true:=List.any_eq_true.2 ⟨_,J7 h,a⟩
   rw [QB,if_pos b,Gf h d a]
  .refine Q9 (k:=?_)
   refine g _ ⟨i+1,by omega,h,fun j m=>?_⟩ (by omega);rcases Nat.lt_or_ge j i with e|e
   .exact d j e
   .have:j=i:=by omega
    subst this;exact a
 .have h:¬ i<l.length:=by simpa using h
  have:i=l.length:=by omega
  subst this;have b:=JU d
  rw [QB,b];rfl
theorem Q5Y{F:Nat}(hF:Q7<=F){l:List Int}{q:Int->Option Bool}(p:Int->Bool)(hl:l.length<=1000000000)(hq:∀ r ∈ l,q r=some (p r)):Mq F l q=some (l.any p):=by
 unfold Mq;refine Q3 (Q5C hF p hl hq) ?_
 congr 1
 rw [Bool.eq_iff_iff, <-bV,decide_eq_true_iff]
end
end Go.Ab
