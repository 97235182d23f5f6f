/- What the plain programs compute, up to the law itself. -/
import Derived.Test.YtaipicdihcmjkaaGreatLwC
set_option linter.unusedVariables false
set_option linter.unusedSimpArgs false
set_option maxRecDepth 20000
namespace Go.Ab
noncomputable section
theorem Q0j{k:Nat}:∀ {L:List A2_},(∀ f ∈ L,f.g_.t_.length<=k)->∀ (d:Int) (p:Int->Bool),(W8 L d p).length<=L.length*k
 | [],_,_,_=>Nat.zero_le _
 | f::L,h,d,p=>by
  have c:=Q0j (L:=L) (fun g a=>h g (by simp [a])) d p;have b:=h f (by simp)
  rw [XV,List.length_append,List.length_cons,Nat.add_mul];split
  .omega
  .simp only [List.length_nil];omega
theorem Q9r{L:List A2_}{k:Nat}(hv:VL L)(h:∀ f ∈ L,f.g_.t_.length<=k)(hk:L.length*k<=300):LF6 L:=by
 refine ⟨hv,fun M d p b=>?_⟩;obtain ⟨i,rfl⟩:=b
 have e:=Q0j (L:=L.take i) (fun f a=>h f (List.mem_of_mem_take a)) d p;have c:(L.take i).length*k<=L.length*k:=Nat.mul_le_mul_right _ (by rw [List.length_take];omega)
 omega
end
end Go.Ab
