/- What the plain programs compute, up to the law itself. -/
import Derived.Test.YtlhhgeknhlkakaaGreatDoorLwA
set_option linter.unusedVariables false
set_option linter.unusedSimpArgs false
set_option maxRecDepth 20000
namespace Go.Ab
noncomputable section
section
variable {F:Nat} {L:List A2_} {d:Int}
end
end
end Go.Ab
