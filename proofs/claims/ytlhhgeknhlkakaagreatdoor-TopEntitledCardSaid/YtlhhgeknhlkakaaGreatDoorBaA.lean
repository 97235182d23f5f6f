/- The types of the program, its sorts and their contracts. -/
import Derived.Test.YtlhhgeknhlkakaaGreatDoorPuB
import Derived.Test.YtlhhgeknhlkakaaGreatDoorProg
import Derived.Shelf.SlGeneric
import Derived.Shelf.SortM.Plain
import Derived.Shelf.SortM.SortNone
import Derived.Shelf.SlSortCmp.WholeK
import Derived.Shelf.SlSortCmp.Whole1
import Derived.Shelf.SlSortCmp.NoneTotal
import Derived.Shelf.Spec.SlicesGrow
import Derived.Ground.SlgmProg
import Derived.Ground.SlsfProg
import Derived.Ground.Names8Prog
import Derived.Test.YtlhhgeknhlkakaaGreatDoorAbC
set_option linter.unusedVariables false
set_option linter.unusedSimpArgs false
section
namespace Go.Ab
open Go.Proofs
set_option maxRecDepth 100000
def TT:List (Nat×TI):=[
 (3,⟨.int .i64,1,8,[.d (.int .i64 0)]⟩),
 (4,⟨.bool,1,1,[.d (.bool false)]⟩),
 (5,⟨.int .u8,1,1,[.d (.int .u8 0)]⟩),
 (9,⟨.str,1,16,[.d (.str ByteArray.empty)]⟩),
 (22,⟨.slice 3,1,24,[.fl 0 λ_=>[]]⟩),
 (23,⟨.other,1,8,[.d .any]⟩),
 (25,⟨.slice 121,1,24,[.fl 0 λ_=>[]]⟩),
 (26,⟨.slice 43,1,24,[.fl 0 λ_=>[]]⟩),
 (27,⟨.slice 74,1,24,[.fl 0 λ_=>[]]⟩),
 (30,⟨.slice 55,1,24,[.fl 0 λ_=>[]]⟩),
 (32,⟨.slice 99,1,24,[.fl 0 λ_=>[]]⟩),
 (34,⟨.struct [(0,32),(1,3),(2,3)],3,40,[.fl 0 λ_=>[],.d (.int .i64 0),.d (.int .i64 0)]⟩),
 (35,⟨.slice 63,1,24,[.fl 0 λ_=>[]]⟩),
 (38,⟨.int .i64,1,8,[.d (.int .i64 0)]⟩),
 (41,⟨.slice 94,1,24,[.fl 0 λ_=>[]]⟩),
 (43,⟨.struct [(0,3),(1,41)],2,32,[.d (.int .i64 0),.fl 0 λ_=>[]]⟩),
 (45,⟨.slice 209,1,24,[.fl 0 λ_=>[]]⟩),
 (46,⟨.slice 140,1,24,[.fl 0 λ_=>[]]⟩),
 (48,⟨.struct [(0,3),(1,25),(2,45),(3,46),(4,3),(5,3)],6,96,[.d (.int .i64 0),.fl 0 λ_=>[],.fl 0 λ_=>[],.fl 0 λ_=>[],.d (.int .i64 0),.d (.int .i64 0)]⟩),
 (50,⟨.slice 52,1,24,[.fl 0 λ_=>[]]⟩),
 (52,⟨.struct [(0,3),(1,3),(2,3),(3,50)],4,48,[.d (.int .i64 0),.d (.int .i64 0),.d (.int .i64 0),.fl 0 λ_=>[]]⟩),
 (53,⟨.slice 83,1,24,[.fl 0 λ_=>[]]⟩),
 (55,⟨.struct [(0,3),(1,9),(2,52),(6,53),(7,3),(8,3),(9,4)],10,120,[.d (.int .i64 0),.d (.str ByteArray.empty),.d (.int .i64 0),.d (.int .i64 0),.d (.int .i64 0),.fl 0 λ_=>[],.fl 0 λ_=>[],.d (.int .i64 0),.d (.int .i64 0),.d (.bool false)]⟩),
 (63,⟨.struct [(0,3),(1,3),(2,3),(3,3),(4,3),(5,3),(6,3),(7,3)],8,64,[.d (.int .i64 0),.d (.int .i64 0),.d (.int .i64 0),.d (.int .i64 0),.d (.int .i64 0),.d (.int .i64 0),.d (.int .i64 0),.d (.int .i64 0)]⟩),
 (68,⟨.struct [(0,22),(1,3)],2,32,[.fl 0 λ_=>[],.d (.int .i64 0)]⟩),
 (71,⟨.struct [(0,3),(1,3),(2,3),(3,3)],4,32,[.d (.int .i64 0),.d (.int .i64 0),.d (.int .i64 0),.d (.int .i64 0)]⟩),
 (72,⟨.slice 71,1,24,[.fl 0 λ_=>[]]⟩),
 (74,⟨.struct [(0,72)],1,24,[.fl 0 λ_=>[]]⟩),
 (75,⟨.other,1,8,[.d .any]⟩),
 (81,⟨.other,1,8,[.d .any]⟩),
 (83,⟨.struct [(0,3),(1,3)],2,16,[.d (.int .i64 0),.d (.int .i64 0)]⟩),
 (88,⟨.array 3 72,3,72,[.fl 0 λ_=>[],.fl 0 λ_=>[],.fl 0 λ_=>[]]⟩),
 (94,⟨.struct [(0,3),(1,74),(2,3),(3,3)],4,48,[.d (.int .i64 0),.fl 0 λ_=>[],.d (.int .i64 0),.d (.int .i64 0)]⟩),
 (99,⟨.struct [(0,3),(1,3),(2,3),(3,3),(4,3),(5,3)],6,48,[.d (.int .i64 0),.d (.int .i64 0),.d (.int .i64 0),.d (.int .i64 0),.d (.int .i64 0),.d (.int .i64 0)]⟩),
 (102,⟨.other,1,8,[.d .any]⟩),
 (104,⟨.struct [(0,34),(3,34)],6,80,[.fl 0 λ_=>[],.d (.int .i64 0),.d (.int .i64 0),.fl 0 λ_=>[],.d (.int .i64 0),.d (.int .i64 0)]⟩),
 (109,⟨.slice 118,1,24,[.fl 0 λ_=>[]]⟩),
 (114,⟨.slice 119,1,24,[.fl 0 λ_=>[]]⟩),
 (118,⟨.slice 158,1,24,[.fl 0 λ_=>[]]⟩),
 (119,⟨.slice 9,1,24,[.fl 0 λ_=>[]]⟩),
 (121,⟨.struct [(0,9),(1,3),(2,3)],3,32,[.d (.str ByteArray.empty),.d (.int .i64 0),.d (.int .i64 0)]⟩),
 (124,⟨.slice 5,1,24,[.fl 0 λ_=>[]]⟩),
 (128,⟨.struct [(0,74),(1,74),(2,74)],3,72,[.fl 0 λ_=>[],.fl 0 λ_=>[],.fl 0 λ_=>[]]⟩),
 (131,⟨.array 3 74,3,72,[.fl 0 λ_=>[],.fl 0 λ_=>[],.fl 0 λ_=>[]]⟩),
 (134,⟨.other,1,8,[.d .any]⟩),
 (140,⟨.struct [(0,3),(1,3),(2,3),(3,3),(4,74)],5,56,[.d (.int .i64 0),.d (.int .i64 0),.d (.int .i64 0),.d (.int .i64 0),.fl 0 λ_=>[]]⟩),
 (149,⟨.other,1,8,[.d .any]⟩),
 (151,⟨.other,1,8,[.d .any]⟩),
 (154,⟨.slice 160,1,24,[.fl 0 λ_=>[]]⟩),
 (158,⟨.struct [(0,3),(1,3)],2,16,[.d (.int .i64 0),.d (.int .i64 0)]⟩),
 (160,⟨.struct [(0,158),(2,158)],4,32,[.d (.int .i64 0),.d (.int .i64 0),.d (.int .i64 0),.d (.int .i64 0)]⟩),
 (186,⟨.slice 72,1,24,[.fl 0 λ_=>[]]⟩),
 (197,⟨.other,1,8,[.d .any]⟩),
 (203,⟨.other,1,8,[.d .any]⟩),
 (209,⟨.struct [(0,3),(1,3),(2,74)],3,40,[.d (.int .i64 0),.d (.int .i64 0),.fl 0 λ_=>[]]⟩),
 (223,⟨.slice 228,1,24,[.fl 0 λ_=>[]]⟩),
 (225,⟨.other,1,8,[.d .any]⟩),
 (228,⟨.struct [(0,3),(1,3)],2,16,[.d (.int .i64 0),.d (.int .i64 0)]⟩),
 (236,⟨.int .u64,1,8,[.d (.int .u64 0)]⟩),
 (243,⟨.int .u64,1,8,[.d (.int .u64 0)]⟩),
 (245,⟨.struct [(0,243),(1,243)],2,16,[.d (.int .u64 0),.d (.int .u64 0)]⟩),
 (251,⟨.other,1,8,[.d .any]⟩),
 (254,⟨.struct [(0,3),(1,25),(2,45),(3,46),(4,3)],5,88,[.d (.int .i64 0),.fl 0 λ_=>[],.fl 0 λ_=>[],.fl 0 λ_=>[],.d (.int .i64 0)]⟩),
 (256,⟨.struct [(0,254),(5,94),(9,72)],10,160,[.d (.int .i64 0),.fl 0 λ_=>[],.fl 0 λ_=>[],.fl 0 λ_=>[],.d (.int .i64 0),.d (.int .i64 0),.fl 0 λ_=>[],.d (.int .i64 0),.d (.int .i64 0),.fl 0 λ_=>[]]⟩),
 (258,⟨.struct [(0,72),(1,72),(2,72)],3,72,[.fl 0 λ_=>[],.fl 0 λ_=>[],.fl 0 λ_=>[]]⟩),
 (269,⟨.slice 271,1,24,[.fl 0 λ_=>[]]⟩),
 (271,⟨.struct [(0,3),(1,3),(2,223)],3,40,[.d (.int .i64 0),.d (.int .i64 0),.fl 0 λ_=>[]]⟩),
 (277,⟨.other,1,8,[.d .any]⟩),
 (304,⟨.other,1,8,[.d .any]⟩),
 (306,⟨.slice 258,1,24,[.fl 0 λ_=>[]]⟩),
 (333,⟨.other,1,8,[.d .any]⟩),
 (339,⟨.other,1,8,[.d .any]⟩),
 (349,⟨.slice 223,1,24,[.fl 0 λ_=>[]]⟩),
 (352,⟨.other,1,8,[.d .any]⟩)]
theorem Z5m:TT.map (λp=>Ty Tryz.prog p.1)=TT.map (λp=>some p.2):=by kernel_rfl
theorem QZ:Qi Tryz.prog (Jb TT):=Q5e Z5m
theorem Z0e:Tryz.prog.follows .mixedOrders=true:=by kernel_rfl
theorem Q2a:EqT Tryz.prog 71:=⟨by kernel_rfl,by kernel_rfl,by kernel_rfl⟩
theorem Z3u:EqT Tryz.prog 228:=⟨by kernel_rfl,by kernel_rfl,by kernel_rfl⟩
theorem Uu:Vq (Jb TT) 22 ⟨.int .i64,1,8,[.d (.int .i64 0)]⟩:=⟨⟨.slice 3,1,24,[.fl 0 λ_=>[]]⟩,3,by kernel_rfl,by kernel_rfl,by kernel_rfl⟩
theorem jC:Vq (Jb TT) 30 ⟨.struct [(0,3),(1,9),(2,52),(6,53),(7,3),(8,3),(9,4)],10,120,[.d (.int .i64 0),.d (.str ByteArray.empty),.d (.int .i64 0),.d (.int .i64 0),.d (.int .i64 0),.fl 0 λ_=>[],.fl 0 λ_=>[],.d (.int .i64 0),.d (.int .i64 0),.d (.bool false)]⟩:=⟨⟨.slice 55,1,24,[.fl 0 λ_=>[]]⟩,55,by kernel_rfl,by kernel_rfl,by kernel_rfl⟩
theorem qk:Vq (Jb TT) 45 ⟨.struct [(0,3),(1,3),(2,74)],3,40,[.d (.int .i64 0),.d (.int .i64 0),.fl 0 λ_=>[]]⟩:=⟨⟨.slice 209,1,24,[.fl 0 λ_=>[]]⟩,209,by kernel_rfl,by kernel_rfl,by kernel_rfl⟩
theorem jB:Vq (Jb TT) 46 ⟨.struct [(0,3),(1,3),(2,3),(3,3),(4,74)],5,56,[.d (.int .i64 0),.d (.int .i64 0),.d (.int .i64 0),.d (.int .i64 0),.fl 0 λ_=>[]]⟩:=⟨⟨.slice 140,1,24,[.fl 0 λ_=>[]]⟩,140,by kernel_rfl,by kernel_rfl,by kernel_rfl⟩
theorem qj:Vq (Jb TT) 72 ⟨.struct [(0,3),(1,3),(2,3),(3,3)],4,32,[.d (.int .i64 0),.d (.int .i64 0),.d (.int .i64 0),.d (.int .i64 0)]⟩:=⟨⟨.slice 71,1,24,[.fl 0 λ_=>[]]⟩,71,by kernel_rfl,by kernel_rfl,by kernel_rfl⟩
end Go.Ab
end
section
set_option maxRecDepth 100000
namespace Go.Proofs
open Go.Shelf
theorem fz{n:FuncId}{B:Func}(q:((Tryz.prog.funcs.getD n Tryz.f3).name == "runtime.NumGoroutine")=false:=by kernel_rfl)(e:Tryz.prog.funcs[n]?=some {B with name:=(Tryz.prog.funcs.getD n Tryz.f3).name}:=by kernel_rfl):Bears Tryz.prog n B:=⟨_,q,e⟩
def Z5g:Go.Shelf.Ren:=⟨λ|5=>221|8=>170|7=>271|19=>236|20=>237|10=>323|11=>324|12=>325|13=>326|14=>327|15=>328|16=>329|17=>330|18=>331|30=>354|31=>274|32=>275|33=>355|34=>356|35=>149|40=>363|n=>n,λ|23=>22|25=>3|3=>3|32=>236|22=>22|0=>0|44=>289|46=>243|4=>4|36=>282|35=>281|41=>286|5=>5|9=>9|53=>316|57=>320|63=>363|64=>56|n=>n,λ|n=>n⟩
theorem Z5h:Go.Proofs.SlLaysM.n5 Tryz.prog Z5g:=by constructor<;>first|kernel_rfl|(intro;kernel_rfl)|exact fz
def Z5e:Go.Shelf.Ren:=⟨λ|6=>223|15=>170|14=>272|28=>236|29=>237|20=>332|21=>333|22=>334|23=>335|24=>336|25=>337|26=>338|27=>339|46=>357|47=>274|48=>275|49=>358|50=>359|57=>364|n=>n,λ|22=>223|24=>228|25=>277|3=>3|39=>236|0=>0|53=>289|55=>243|4=>4|46=>282|45=>281|50=>286|5=>5|9=>9|66=>316|70=>320|76=>363|77=>56|n=>n,λ|n=>n⟩
theorem Z5f:Go.Proofs.SlLaysF0.n6 Tryz.prog Z5e:=by constructor<;>first|kernel_rfl|(intro;kernel_rfl)|exact fz
def Z5k:Go.Shelf.Ren:=⟨λ|6=>108|15=>170|14=>188|28=>236|29=>237|20=>214|21=>246|22=>247|23=>248|24=>249|25=>250|26=>251|27=>252|46=>288|47=>274|48=>275|49=>289|50=>290|57=>345|n=>n,λ|22=>22|24=>3|25=>75|3=>3|39=>236|0=>0|53=>289|55=>243|4=>4|46=>282|45=>281|50=>286|5=>5|9=>9|66=>316|70=>320|76=>363|77=>56|n=>n,λ|n=>n⟩
theorem Z5l:Go.Proofs.SlLaysF.n6 Tryz.prog Z5k:=by constructor<;>first|kernel_rfl|(intro;kernel_rfl)|exact fz
def Z5a:Go.Shelf.Ren:=⟨λ|4=>319|n=>n,λ|22=>223|25=>228|3=>3|4=>4|9=>9|20=>20|0=>0|2=>3|n=>n,λ|n=>n⟩
theorem Z5b:Go.Proofs.Lays8.n4 Tryz.prog Z5a:=by constructor<;>first|kernel_rfl|(intro;kernel_rfl)|exact fz
def Z5i:Go.Shelf.Ren:=⟨λ|4=>209|n=>n,λ|22=>72|25=>71|3=>3|4=>4|9=>9|20=>20|0=>0|n=>n,λ|n=>n⟩
theorem Z5j:Go.Proofs.Lays8.n4 Tryz.prog Z5i:=by constructor<;>first|kernel_rfl|(intro;kernel_rfl)|exact fz
def Z5c:Go.Shelf.Ren:=⟨λ|4=>227|n=>n,λ|22=>118|25=>158|3=>3|4=>4|9=>9|20=>20|0=>0|2=>3|n=>n,λ|n=>n⟩
theorem Z5d:Go.Proofs.Lays8.n4 Tryz.prog Z5c:=by constructor<;>first|kernel_rfl|(intro;kernel_rfl)|exact fz
end Go.Proofs
end
section
namespace Go.Ab
open Go.Proofs
theorem gR{x r:List Int}(h:VM x=some r):G4 Tryz.prog 221 [.v (.c (.own 0))] [(0,AO (α:=Int) x)] .any [(0,AO (α:=Int) r)]:=Q6b Z5h h
theorem Q6e{x:List Span}{q:Span->Span->Option Int}{r:List Span}(h:Jd x q=some r):G4 Tryz.prog 223 [.v (.c (.own 0)),.v (.c (.sem (Qp Tryz.prog (Q3O q))))] [(0,AO (α:=Span) x)] .any [(0,AO (α:=Span) r)]:=
 Q6h QZ Z5f (λ_=>rfl) (te:=⟨.struct [(0,3),(1,3)],2,16,[.d (.int .i64 0),.d (.int .i64 0)]⟩) (by kernel_rfl) rfl rfl Q3O (λq x y z a=>⟨x,y,z,a,rfl,rfl⟩) h
theorem Q5X{x r:List Int}{q:Int->Int->Option Int}(h:Jc x q=some r):G4 Tryz.prog 108 [.v (.c (.own 0)),.v (.c (.sem (Qp Tryz.prog (Pm q))))] [(0,AO (α:=Int) x)] .any [(0,AO (α:=Int) r)]:=
 Q5Y Z5l Pm (λq x y z a=>⟨x,y,z,a,rfl,rfl⟩) h
theorem Z2C{n:Int}{r:List Point}(h:KV n=some r):G4 Tryz.prog 227 [.v (.c (.fl 0 λ_=>[])),vi n] [] (.v (.c (.own 100))) [(100,AO (α:=Point) r)]:=
 vt QZ Z5d (te:=⟨.struct [(0,3),(1,3)],2,16,[.d (.int .i64 0),.d (.int .i64 0)]⟩) (by kernel_rfl) rfl (by decide) (by decide) rfl h
theorem Z2A{n:Int}{r:List Span}(h:KV n=some r):G4 Tryz.prog 319 [.v (.c (.fl 0 λ_=>[])),vi n] [] (.v (.c (.own 100))) [(100,AO (α:=Span) r)]:=
 vt QZ Z5b (te:=⟨.struct [(0,3),(1,3)],2,16,[.d (.int .i64 0),.d (.int .i64 0)]⟩) (by kernel_rfl) rfl (by decide) (by decide) rfl h
theorem Z2B{n:Int}{r:List Rect}(h:KV n=some r):G4 Tryz.prog 209 [.v (.c (.fl 0 λ_=>[])),vi n] [] (.v (.c (.own 100))) [(100,AO (α:=Rect) r)]:=
 vt QZ Z5j (te:=⟨.struct [(0,3),(1,3),(2,3),(3,3)],4,32,[.d (.int .i64 0),.d (.int .i64 0),.d (.int .i64 0),.d (.int .i64 0)]⟩) (by kernel_rfl) rfl (by decide) (by decide) rfl h
end Go.Ab
end
