/- The types of the program, its sorts and their contracts. -/
import Derived.Test.YtdfbifjpedjljaaGreatAbC
import Derived.Test.YtdfbifjpedjljaaGreatBaA
set_option linter.unusedVariables false
set_option linter.unusedSimpArgs false
section
namespace Go.Ab
open Go.Proofs
theorem Z6C {x r:List Int} (h:Z3r x=some r):Z6 Tryz.prog 214 [.v (.c (.own 0))] [(0,AO (α:=Int) x)] .any [(0,AO (α:=Int) r)]:=Z9n Tryz.lay214 h
theorem Y0p {x:List Span} {q:Span→Span→Option Int} {r:List Span} (h:Z5H x q=some r):Z6 Tryz.prog 244 [.v (.c (.own 0)),.v (.c (.sem (Q0c Tryz.prog (Z0Z q))))] [(0,AO (α:=Span) x)] .any [(0,AO (α:=Span) r)]:=
 Z9o Q4 Tryz.lay244 (fun _=>rfl) (te:=⟨.struct [(0,3),(1,3)],2,16,[.d (.int .i64 0),.d (.int .i64 0)]⟩) (by kernel_rfl) rfl rfl Z0Z (fun q x y z hq=>⟨x,y,z,hq,rfl,rfl⟩) h
theorem Y0M {n:Int} {r:List Span} (h:Z9F n=some r):Z6 Tryz.prog 284 [.v (.c (.fl 0 fun _=>[])),vi n] [] (.v (.c (.own 100))) [(100,AO (α:=Span) r)]:=
 Z9E Q4 Tryz.lay284 (te:=⟨.struct [(0,3),(1,3)],2,16,[.d (.int .i64 0),.d (.int .i64 0)]⟩) (by kernel_rfl) rfl (by decide) (by decide) rfl h
end Go.Ab
end
