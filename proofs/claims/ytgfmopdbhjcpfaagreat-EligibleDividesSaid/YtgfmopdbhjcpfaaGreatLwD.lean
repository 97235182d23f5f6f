/- What the plain programs compute, up to the law itself. -/
import Derived.Test.YtgfmopdbhjcpfaaGreatLwC
set_option linter.unusedVariables false
set_option linter.unusedSimpArgs false
set_option maxRecDepth 20000
namespace Go.Ab
noncomputable section
theorem Y1b{k:Nat}:∀ {L:List A2_},(∀ f ∈ L,f.g_.t_.length<=k)->∀ (d:Int) (p:Int->Bool),(W4 L d p).length<=L.length*k
 | [],_,_,_=>Nat.zero_le _
 | f::L,h,d,p=>by
  have b:=Y1b (L:=L) (fun g a=>h g (by simp [a])) d p;have c:=h f (by simp)
  rw [Z0a,List.length_append,List.length_cons,Nat.add_mul];split
  .omega
  .simp only [List.length_nil];omega
theorem W3a{L:List A2_}{k:Nat}(hv:VL L)(h:∀ f ∈ L,f.g_.t_.length<=k)(hk:L.length*k<=300):LF6 L:=by
 refine ⟨hv,fun M d p a=>?_⟩;obtain ⟨i,rfl⟩:=a
 have e:=Y1b (L:=L.take i) (fun f b=>h f (List.mem_of_mem_take b)) d p;have c:(L.take i).length*k<=L.length*k:=Nat.mul_le_mul_right _ (by rw [List.length_take];omega)
 omega
end
end Go.Ab
