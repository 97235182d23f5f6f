/- The types of the program, its sorts and their contracts: no condition. -/
import Derived.Test.YtdfbifjpedjljaaGreatAbC
import Derived.Test.YtdfbifjpedjljaaGreatBaA
set_option linter.unusedVariables false
set_option linter.unusedSimpArgs false
section
namespace Go.Ab
open Go.Proofs
theorem sortI_spec {x r:List Int} (h:sortI x=some r):FSpec Tryz.prog 214 [.v (.c (.own 0))] [(0,AO (α:=Int) x)] .any [(0,AO (α:=Int) r)]:=sortI_FSpec Tryz.lay214 h
theorem sortF_spec {x:List Span} {q:Span→Span→Option Int} {r:List Span} (h:sortF x q=some r):FSpec Tryz.prog 244 [.v (.c (.own 0)),.v (.c (.sem (CloOK Tryz.prog (FR_Span_Span_Int q))))] [(0,AO (α:=Span) x)] .any [(0,AO (α:=Span) r)]:=
 sortF_FSpec prog_lay Tryz.lay244 (fun _=>rfl) (te:=⟨.struct [(0,3),(1,3)],2,16,[.d (.int .i64 0),.d (.int .i64 0)]⟩) (by kernel_rfl) rfl rfl FR_Span_Span_Int (fun q x y z hq=>⟨x,y,z,hq,rfl,rfl⟩) h
end Go.Ab
end
