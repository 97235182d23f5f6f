/- What the plain programs compute, up to the law itself. -/
import Derived.Test.YtjafnaffdfaokaaGreatDoorLwD
set_option linter.unusedVariables false
set_option linter.unusedSimpArgs false
set_option maxRecDepth 20000
namespace Go.Ab
noncomputable section
section
variable {F:Nat}
theorem Z0K(hF:Q7<=F){l:List Int}(h:l.length<=60):Sn F l l=some true:=by
 unfold Q7 at hF;unfold Sn
 refine Z5 (by simp) ?_;refine Tz l.length (fun b i c a=>?_) (fun b=>?_) (by omega)
 .unfold qF
  refine Y7 (by simp;omega) ?_;refine Q9 (k:=?_)
  refine Q9 (k:=?_);refine Z5 (by simp) ?_
  refine Q9 (k:=?_);exact a
 .unfold qF
  exact Z5 (by simp) rfl
end
end
end Go.Ab
