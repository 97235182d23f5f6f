/- What the plain programs compute, up to the law itself. -/
import Derived.Test.YtlhhgeknhlkakaaGreatDoorLwC
set_option linter.unusedVariables false
set_option linter.unusedSimpArgs false
set_option maxRecDepth 20000
namespace Go.Ab
noncomputable section

end
end Go.Ab
