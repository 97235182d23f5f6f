/- What the plain programs compute, up to the law itself. -/
import Derived.Test.YtgfmopdbhjcpfaaGreatLwD
set_option linter.unusedVariables false
set_option linter.unusedSimpArgs false
set_option maxRecDepth 20000
namespace Go.Ab
noncomputable section
section
variable {F:Nat}
theorem Z9Y(hF:BIG<=F){v:Re_}(h:v.t_.length<=120):Q7d F v v=some true:=(Y3w hF (by simp only [LIM];omega)).trans (by simp)
end
end
end Go.Ab
