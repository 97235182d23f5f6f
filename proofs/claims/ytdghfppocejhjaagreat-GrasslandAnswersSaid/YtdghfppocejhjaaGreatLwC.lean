/- What the plain programs compute, up to the law itself: each lemma states its own bounds. -/
import Derived.Test.YtdghfppocejhjaaGreatLwB
set_option linter.unusedVariables false
set_option linter.unusedSimpArgs false
section
namespace Go.Ab
set_option maxRecDepth 20000
noncomputable section
end
end Go.Ab
end
