/- Abstract states over the model. -/
import Derived.Test.YtlhhgeknhlkakaaGreatDoorAbF
import Derived.Test.YtlhhgeknhlkakaaGreatDoorLwE
set_option linter.unusedVariables false
set_option linter.unusedSimpArgs false
set_option maxRecDepth 20000
namespace Go.Ab
noncomputable section
section
section
variable {A B:List Rect} {h:Sq} (hB:∀u v,Q8 B u v=(Q8 A u v&&h u v)) {hs:List Rg_} {cs:List Crop} {zs:List A2_} {y c d:Int}
include hB
end
end
end
end Go.Ab
