/- The types of the program, its sorts and their contracts. -/
import Derived.Test.YtngflklgdflcdaaGreatDoorHaB
set_option linter.all false
noncomputable section
namespace Go.Ab
variable {n:Int}{q:Int->Int->φ}{x:θ}{r:ψ}
section
section
open Go.Proofs
theorem bh{r:θ}(h:UI x=some r):J7 Tryz.prog 251 [.v (.c (.own 0))] [(0,AO (α:=Int) x)] .any [(0,AO (α:=Int) r)]:=IV Of h
theorem OP{x:ψ}{q:aq->aq->φ}(h:UJ x q=some r):J7 Tryz.prog 253 [.v (.c (.own 0)),.v (.c (.sem (Qv Tryz.prog (tY q))))] [(0,AO (α:=aq) x)] .any [(0,AO (α:=aq) r)]:=
 bm Zs Z8R (λ_=>rfl) (te:=⟨.struct [(0,3),(1,3)],2,16,[.d (.int .i64 0),.d (.int .i64 0)]⟩) rfl rfl tY (λq x y z a=>⟨x,y,z,a,rfl,rfl⟩) h
theorem Q9v{x:Φ}{q:aB->aB->φ}{r:Φ}(h:UJ x q=some r):J7 Tryz.prog 37 [.v (.c (.own 0)),.v (.c (.sem (Qv Tryz.prog (As q))))] [(0,AO (α:=aB) x)] .any [(0,AO (α:=aB) r)]:=
 bm Zs OW (λ_=>rfl) (te:=⟨.struct [(0,9),(1,3),(2,3)],3,32,[.d (.str ByteArray.empty),.d (.int .i64 0),.d (.int .i64 0)]⟩) rfl rfl As (λq x y z a=>⟨x,y,z,a,rfl,rfl⟩) h
theorem OV{r:θ}(h:Ke x q=some r):J7 Tryz.prog 123 [.v (.c (.own 0)),.v (.c (.sem (Qv Tryz.prog (p8 q))))] [(0,AO (α:=Int) x)] .any [(0,AO (α:=Int) r)]:=
 Q9n Z9b p8 (λq x y z a=>⟨x,y,z,a,rfl,rfl⟩) h
theorem Z5Q{r:List Point}(h:Xl n=some r):J7 Tryz.prog 257 [.v (.c (.fl 0 λ_=>[])),vi n] [] (.v (.c (.own 100))) [(100,AO (α:=Point) r)]:=
 xT Zs Z8P (te:=⟨.struct [(0,3),(1,3)],2,16,[.d (.int .i64 0),.d (.int .i64 0)]⟩) rfl (by decide) (by decide) rfl h
theorem Z5O(h:Xl n=some r):J7 Tryz.prog 363 [.v (.c (.fl 0 λ_=>[])),vi n] [] (.v (.c (.own 100))) [(100,AO (α:=aq) r)]:=
 xT Zs En (te:=⟨.struct [(0,3),(1,3)],2,16,[.d (.int .i64 0),.d (.int .i64 0)]⟩) rfl (by decide) (by decide) rfl h
theorem M3{r:ζ}(h:Xl n=some r):J7 Tryz.prog 248 [.v (.c (.fl 0 λ_=>[])),vi n] [] (.v (.c (.own 100))) [(100,AO (α:=aa) r)]:=
 xT Zs Z8V (te:=⟨.struct [(0,3),(1,3),(2,3),(3,3)],4,32,[.d (.int .i64 0),.d (.int .i64 0),.d (.int .i64 0),.d (.int .i64 0)]⟩) rfl (by decide) (by decide) rfl h
