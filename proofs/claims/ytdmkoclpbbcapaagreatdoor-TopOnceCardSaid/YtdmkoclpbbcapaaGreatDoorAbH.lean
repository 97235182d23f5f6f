/- Abstract states over the model. -/
import Derived.Test.YtdmkoclpbbcapaaGreatDoorAbG
import Derived.Test.YtdmkoclpbbcapaaGreatDoorLwE
set_option linter.unusedVariables false
set_option linter.unusedSimpArgs false
set_option maxRecDepth 20000
namespace Go.Ab
noncomputable section
section
section
variable {A B:List Rect} {h:Sq} (hB:∀u v,Q2 B u v=(Q2 A u v&&h u v)) {hs:List Rg_} {cs:List Crop} {zs:List A2_} {y c d:Int}
include hB
end
theorem TR.part{A:List Rect}(hA:TR A){S:Sq}(hf:Fin S)(hs:∀u v,S u v=true->Q2 A u v=true):TR (cn S):=⟨hA.sub hf hs,λa b=>hA.sub a λu v h=>hs u v (by have:=b u v h;rwa [QN hf]at this)⟩
end
end
end Go.Ab
