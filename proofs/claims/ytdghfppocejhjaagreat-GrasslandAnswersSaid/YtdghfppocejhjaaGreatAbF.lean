/- Abstract states over the model: every lemma holds of any program of the form that it names. -/
import Derived.Test.YtdghfppocejhjaaGreatAbE
import Derived.Test.YtdghfppocejhjaaGreatLwC
set_option linter.unusedVariables false
set_option linter.unusedSimpArgs false
section
namespace Go.Ab
set_option maxRecDepth 20000
noncomputable section
end
end Go.Ab
end

section
namespace Go.Ab
set_option maxRecDepth 20000
noncomputable section
end
end Go.Ab
end

section
namespace Go.Ab
set_option maxRecDepth 20000
noncomputable section
end
end Go.Ab
end
