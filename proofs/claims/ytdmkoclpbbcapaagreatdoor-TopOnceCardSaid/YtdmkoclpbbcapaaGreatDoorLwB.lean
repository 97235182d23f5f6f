/- What the plain programs compute, up to the law itself. -/
import Derived.Test.YtdmkoclpbbcapaaGreatDoorLwA
set_option linter.unusedVariables false
set_option linter.unusedSimpArgs false
set_option maxRecDepth 20000
namespace Go.Ab
noncomputable section
structure FewR (l:List Rg_):Prop where
 hl:HL l
 few:∀y p i,i<l.length->(Zl (l.take i) y p).length<=300
end
end Go.Ab
