/- What the plain programs compute, up to the law itself. -/
import Derived.Test.YtaipicdihcmjkaaGreatLwD
set_option linter.unusedVariables false
set_option linter.unusedSimpArgs false
set_option maxRecDepth 20000
namespace Go.Ab
noncomputable section
section
variable {F:Nat}
theorem qx(hF:Q8<=F){v:Re_}(h:v.t_.length<=120):Gs F v v=some true:=(Q8l hF (by simp only [Y5];omega)).trans (by simp)
end
end
end Go.Ab
