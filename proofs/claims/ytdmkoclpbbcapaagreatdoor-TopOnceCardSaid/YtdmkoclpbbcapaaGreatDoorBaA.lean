/- The types of the program, its sorts and their contracts. -/
import Derived.Test.YtdmkoclpbbcapaaGreatDoorPuB
import Derived.Test.YtdmkoclpbbcapaaGreatDoorProg
import Derived.Shelf.SlGeneric
import Derived.Shelf.SortM.Plain
import Derived.Shelf.SortM.SortNone
import Derived.Shelf.SlSortCmp.WholeK
import Derived.Shelf.SlSortCmp.Whole1
import Derived.Shelf.SlSortCmp.NoneTotal
import Derived.Shelf.Spec.SlicesGrow
import Derived.Ground.SlgmProg
import Derived.Ground.SlsfProg
import Derived.Ground.Names8Prog
import Derived.Test.YtdmkoclpbbcapaaGreatDoorAbC
set_option linter.unusedVariables false
set_option linter.unusedSimpArgs false
section
namespace Go.Ab
open Go.Proofs
set_option maxRecDepth 100000
def TT:List (Nat×TI):=[
 (3,⟨.int .i64,1,8,[.d (.int .i64 0)]⟩),
 (4,⟨.bool,1,1,[.d (.bool false)]⟩),
 (5,⟨.int .u8,1,1,[.d (.int .u8 0)]⟩),
 (9,⟨.str,1,16,[.d (.str ByteArray.empty)]⟩),
 (22,⟨.slice 3,1,24,[.fl 0 λ_=>[]]⟩),
 (23,⟨.other,1,8,[.d .any]⟩),
 (25,⟨.slice 131,1,24,[.fl 0 λ_=>[]]⟩),
 (26,⟨.slice 52,1,24,[.fl 0 λ_=>[]]⟩),
 (27,⟨.slice 54,1,24,[.fl 0 λ_=>[]]⟩),
 (30,⟨.slice 48,1,24,[.fl 0 λ_=>[]]⟩),
 (32,⟨.slice 213,1,24,[.fl 0 λ_=>[]]⟩),
 (33,⟨.slice 139,1,24,[.fl 0 λ_=>[]]⟩),
 (35,⟨.struct [(0,3),(1,25),(2,32),(3,33),(4,3),(5,3)],6,96,[.d (.int .i64 0),.fl 0 λ_=>[],.fl 0 λ_=>[],.fl 0 λ_=>[],.d (.int .i64 0),.d (.int .i64 0)]⟩),
 (37,⟨.slice 94,1,24,[.fl 0 λ_=>[]]⟩),
 (38,⟨.int .i64,1,8,[.d (.int .i64 0)]⟩),
 (41,⟨.slice 103,1,24,[.fl 0 λ_=>[]]⟩),
 (43,⟨.slice 45,1,24,[.fl 0 λ_=>[]]⟩),
 (45,⟨.struct [(0,3),(1,3),(2,3),(3,43)],4,48,[.d (.int .i64 0),.d (.int .i64 0),.d (.int .i64 0),.fl 0 λ_=>[]]⟩),
 (46,⟨.slice 84,1,24,[.fl 0 λ_=>[]]⟩),
 (48,⟨.struct [(0,3),(1,9),(2,45),(6,46),(7,3),(8,3),(9,4)],10,120,[.d (.int .i64 0),.d (.str ByteArray.empty),.d (.int .i64 0),.d (.int .i64 0),.d (.int .i64 0),.fl 0 λ_=>[],.fl 0 λ_=>[],.d (.int .i64 0),.d (.int .i64 0),.d (.bool false)]⟩),
 (49,⟨.slice 75,1,24,[.fl 0 λ_=>[]]⟩),
 (50,⟨.slice 56,1,24,[.fl 0 λ_=>[]]⟩),
 (52,⟨.struct [(0,3),(1,50)],2,32,[.d (.int .i64 0),.fl 0 λ_=>[]]⟩),
 (54,⟨.struct [(0,49)],1,24,[.fl 0 λ_=>[]]⟩),
 (56,⟨.struct [(0,3),(1,54),(2,3),(3,3)],4,48,[.d (.int .i64 0),.fl 0 λ_=>[],.d (.int .i64 0),.d (.int .i64 0)]⟩),
 (58,⟨.struct [(0,54),(1,54),(2,54)],3,72,[.fl 0 λ_=>[],.fl 0 λ_=>[],.fl 0 λ_=>[]]⟩),
 (72,⟨.struct [(0,22),(1,3)],2,32,[.fl 0 λ_=>[],.d (.int .i64 0)]⟩),
 (75,⟨.struct [(0,3),(1,3),(2,3),(3,3)],4,32,[.d (.int .i64 0),.d (.int .i64 0),.d (.int .i64 0),.d (.int .i64 0)]⟩),
 (76,⟨.other,1,8,[.d .any]⟩),
 (82,⟨.other,1,8,[.d .any]⟩),
 (84,⟨.struct [(0,3),(1,3)],2,16,[.d (.int .i64 0),.d (.int .i64 0)]⟩),
 (92,⟨.slice 96,1,24,[.fl 0 λ_=>[]]⟩),
 (94,⟨.struct [(0,54),(1,92)],2,48,[.fl 0 λ_=>[],.fl 0 λ_=>[]]⟩),
 (96,⟨.struct [(0,3),(1,3)],2,16,[.d (.int .i64 0),.d (.int .i64 0)]⟩),
 (99,⟨.other,1,8,[.d .any]⟩),
 (103,⟨.struct [(0,96),(2,54)],3,40,[.d (.int .i64 0),.d (.int .i64 0),.fl 0 λ_=>[]]⟩),
 (107,⟨.array 3 49,3,72,[.fl 0 λ_=>[],.fl 0 λ_=>[],.fl 0 λ_=>[]]⟩),
 (112,⟨.other,1,8,[.d .any]⟩),
 (117,⟨.other,1,8,[.d .any]⟩),
 (120,⟨.slice 128,1,24,[.fl 0 λ_=>[]]⟩),
 (123,⟨.slice 129,1,24,[.fl 0 λ_=>[]]⟩),
 (128,⟨.slice 179,1,24,[.fl 0 λ_=>[]]⟩),
 (129,⟨.slice 9,1,24,[.fl 0 λ_=>[]]⟩),
 (131,⟨.struct [(0,9),(1,3),(2,3)],3,32,[.d (.str ByteArray.empty),.d (.int .i64 0),.d (.int .i64 0)]⟩),
 (133,⟨.slice 5,1,24,[.fl 0 λ_=>[]]⟩),
 (139,⟨.struct [(0,3),(1,3),(2,3),(3,3),(4,54)],5,56,[.d (.int .i64 0),.d (.int .i64 0),.d (.int .i64 0),.d (.int .i64 0),.fl 0 λ_=>[]]⟩),
 (141,⟨.slice 217,1,24,[.fl 0 λ_=>[]]⟩),
 (146,⟨.slice 149,1,24,[.fl 0 λ_=>[]]⟩),
 (149,⟨.struct [(0,49),(1,92)],2,48,[.fl 0 λ_=>[],.fl 0 λ_=>[]]⟩),
 (152,⟨.other,1,8,[.d .any]⟩),
 (153,⟨.other,1,8,[.d .any]⟩),
 (156,⟨.slice 228,1,24,[.fl 0 λ_=>[]]⟩),
 (159,⟨.other,1,8,[.d .any]⟩),
 (162,⟨.other,1,8,[.d .any]⟩),
 (164,⟨.array 3 54,3,72,[.fl 0 λ_=>[],.fl 0 λ_=>[],.fl 0 λ_=>[]]⟩),
 (166,⟨.other,1,8,[.d .any]⟩),
 (175,⟨.slice 181,1,24,[.fl 0 λ_=>[]]⟩),
 (179,⟨.struct [(0,3),(1,3)],2,16,[.d (.int .i64 0),.d (.int .i64 0)]⟩),
 (181,⟨.struct [(0,179),(2,179)],4,32,[.d (.int .i64 0),.d (.int .i64 0),.d (.int .i64 0),.d (.int .i64 0)]⟩),
 (186,⟨.other,1,8,[.d .any]⟩),
 (207,⟨.slice 49,1,24,[.fl 0 λ_=>[]]⟩),
 (213,⟨.struct [(0,3),(1,3),(2,54)],3,40,[.d (.int .i64 0),.d (.int .i64 0),.fl 0 λ_=>[]]⟩),
 (217,⟨.struct [(0,96),(2,49)],3,40,[.d (.int .i64 0),.d (.int .i64 0),.fl 0 λ_=>[]]⟩),
 (222,⟨.int .u64,1,8,[.d (.int .u64 0)]⟩),
 (223,⟨.slice 225,1,24,[.fl 0 λ_=>[]]⟩),
 (225,⟨.struct [(0,3),(1,3),(2,156)],3,40,[.d (.int .i64 0),.d (.int .i64 0),.fl 0 λ_=>[]]⟩),
 (228,⟨.struct [(0,3),(1,3)],2,16,[.d (.int .i64 0),.d (.int .i64 0)]⟩),
 (235,⟨.other,1,8,[.d .any]⟩),
 (258,⟨.int .u64,1,8,[.d (.int .u64 0)]⟩),
 (260,⟨.struct [(0,258),(1,258)],2,16,[.d (.int .u64 0),.d (.int .u64 0)]⟩),
 (266,⟨.other,1,8,[.d .any]⟩),
 (279,⟨.slice 156,1,24,[.fl 0 λ_=>[]]⟩),
 (282,⟨.other,1,8,[.d .any]⟩),
 (285,⟨.struct [(0,3),(1,25),(2,32),(3,33),(4,3)],5,88,[.d (.int .i64 0),.fl 0 λ_=>[],.fl 0 λ_=>[],.fl 0 λ_=>[],.d (.int .i64 0)]⟩),
 (287,⟨.struct [(0,285),(5,56),(9,49)],10,160,[.d (.int .i64 0),.fl 0 λ_=>[],.fl 0 λ_=>[],.fl 0 λ_=>[],.d (.int .i64 0),.d (.int .i64 0),.fl 0 λ_=>[],.d (.int .i64 0),.d (.int .i64 0),.fl 0 λ_=>[]]⟩),
 (289,⟨.struct [(0,49),(1,49),(2,49)],3,72,[.fl 0 λ_=>[],.fl 0 λ_=>[],.fl 0 λ_=>[]]⟩),
 (336,⟨.other,1,8,[.d .any]⟩),
 (338,⟨.slice 289,1,24,[.fl 0 λ_=>[]]⟩),
 (360,⟨.other,1,8,[.d .any]⟩),
 (366,⟨.other,1,8,[.d .any]⟩)]
theorem Z6g:TT.map (λp=>TH Tryz.prog p.1)=TT.map (λp=>some p.2):=by kernel_rfl
theorem Zg:y4 Tryz.prog (UT TT):=Q5K Z6g
theorem Z0t:Tryz.prog.follows .mixedOrders=true:=by kernel_rfl
theorem Q2n:EqT Tryz.prog 75:=⟨by kernel_rfl,by kernel_rfl,by kernel_rfl⟩
theorem Z3V:EqT Tryz.prog 228:=⟨by kernel_rfl,by kernel_rfl,by kernel_rfl⟩
theorem KO:WP (UT TT) 22 ⟨.int .i64,1,8,[.d (.int .i64 0)]⟩:=⟨⟨.slice 3,1,24,[.fl 0 λ_=>[]]⟩,3,by kernel_rfl,by kernel_rfl,by kernel_rfl⟩
theorem jA:WP (UT TT) 30 ⟨.struct [(0,3),(1,9),(2,45),(6,46),(7,3),(8,3),(9,4)],10,120,[.d (.int .i64 0),.d (.str ByteArray.empty),.d (.int .i64 0),.d (.int .i64 0),.d (.int .i64 0),.fl 0 λ_=>[],.fl 0 λ_=>[],.d (.int .i64 0),.d (.int .i64 0),.d (.bool false)]⟩:=⟨⟨.slice 48,1,24,[.fl 0 λ_=>[]]⟩,48,by kernel_rfl,by kernel_rfl,by kernel_rfl⟩
theorem qs:WP (UT TT) 32 ⟨.struct [(0,3),(1,3),(2,54)],3,40,[.d (.int .i64 0),.d (.int .i64 0),.fl 0 λ_=>[]]⟩:=⟨⟨.slice 213,1,24,[.fl 0 λ_=>[]]⟩,213,by kernel_rfl,by kernel_rfl,by kernel_rfl⟩
theorem jz:WP (UT TT) 33 ⟨.struct [(0,3),(1,3),(2,3),(3,3),(4,54)],5,56,[.d (.int .i64 0),.d (.int .i64 0),.d (.int .i64 0),.d (.int .i64 0),.fl 0 λ_=>[]]⟩:=⟨⟨.slice 139,1,24,[.fl 0 λ_=>[]]⟩,139,by kernel_rfl,by kernel_rfl,by kernel_rfl⟩
theorem qr:WP (UT TT) 49 ⟨.struct [(0,3),(1,3),(2,3),(3,3)],4,32,[.d (.int .i64 0),.d (.int .i64 0),.d (.int .i64 0),.d (.int .i64 0)]⟩:=⟨⟨.slice 75,1,24,[.fl 0 λ_=>[]]⟩,75,by kernel_rfl,by kernel_rfl,by kernel_rfl⟩
theorem Q8c:WP (UT TT) 92 ⟨.struct [(0,3),(1,3)],2,16,[.d (.int .i64 0),.d (.int .i64 0)]⟩:=⟨⟨.slice 96,1,24,[.fl 0 λ_=>[]]⟩,96,by kernel_rfl,by kernel_rfl,by kernel_rfl⟩
end Go.Ab
end
section
set_option maxRecDepth 100000
namespace Go.Proofs
open Go.Shelf
theorem fz{n:FuncId}{B:Func}(q:((Tryz.prog.funcs.getD n Tryz.f3).name == "runtime.NumGoroutine")=false:=by kernel_rfl)(e:Tryz.prog.funcs[n]?=some {B with name:=(Tryz.prog.funcs.getD n Tryz.f3).name}:=by kernel_rfl):Bears Tryz.prog n B:=⟨_,q,e⟩
def Z6c:Go.Shelf.Ren:=⟨λ|5=>143|8=>140|7=>202|19=>200|20=>201|10=>252|11=>253|12=>254|13=>255|14=>256|15=>257|16=>258|17=>259|18=>260|30=>296|31=>248|32=>249|33=>297|34=>298|35=>186|40=>336|n=>n,λ|23=>22|25=>3|3=>3|32=>222|22=>22|0=>0|44=>276|46=>258|4=>4|36=>269|35=>268|41=>273|5=>5|9=>9|53=>317|57=>321|63=>351|64=>203|n=>n,λ|n=>n⟩
theorem Z6d:Go.Proofs.SlLaysM.n5 Tryz.prog Z6c:=by constructor<;>first|kernel_rfl|(intro;kernel_rfl)|exact fz
def Z6a:Go.Shelf.Ren:=⟨λ|6=>147|15=>140|14=>206|28=>200|29=>201|20=>262|21=>263|22=>264|23=>265|24=>266|25=>267|26=>268|27=>269|46=>299|47=>248|48=>249|49=>300|50=>301|57=>337|n=>n,λ|22=>156|24=>228|25=>235|3=>3|39=>222|0=>0|53=>276|55=>258|4=>4|46=>269|45=>268|50=>273|5=>5|9=>9|66=>317|70=>321|76=>351|77=>203|n=>n,λ|n=>n⟩
theorem Z6b:Go.Proofs.SlLaysF0.n6 Tryz.prog Z6a:=by constructor<;>first|kernel_rfl|(intro;kernel_rfl)|exact fz
def Z6e:Go.Shelf.Ren:=⟨λ|6=>119|15=>140|14=>185|28=>200|29=>201|20=>238|21=>239|22=>240|23=>241|24=>242|25=>243|26=>244|27=>245|46=>292|47=>248|48=>249|49=>293|50=>294|57=>335|n=>n,λ|22=>22|24=>3|25=>76|3=>3|39=>222|0=>0|53=>276|55=>258|4=>4|46=>269|45=>268|50=>273|5=>5|9=>9|66=>317|70=>321|76=>351|77=>203|n=>n,λ|n=>n⟩
theorem Z6f:Go.Proofs.SlLaysF.n6 Tryz.prog Z6e:=by constructor<;>first|kernel_rfl|(intro;kernel_rfl)|exact fz
def Z5S:Go.Shelf.Ren:=⟨λ|6=>64|15=>140|14=>139|28=>200|29=>201|20=>192|21=>193|22=>194|23=>195|24=>196|25=>197|26=>198|27=>199|46=>247|47=>248|48=>249|49=>250|50=>251|57=>295|n=>n,λ|22=>37|24=>94|25=>153|3=>3|39=>222|0=>0|53=>276|55=>258|4=>4|46=>269|45=>268|50=>273|5=>5|9=>9|66=>317|70=>321|76=>351|77=>203|n=>n,λ|n=>n⟩
theorem Z5T:Go.Proofs.SlLaysF0.n6 Tryz.prog Z5S:=by constructor<;>first|kernel_rfl|(intro;kernel_rfl)|exact fz
def Z5Y:Go.Shelf.Ren:=⟨λ|4=>203|n=>n,λ|22=>156|25=>228|3=>3|4=>4|9=>9|20=>20|0=>0|2=>3|n=>n,λ|n=>n⟩
theorem Z5Z:Go.Proofs.Lays8.n4 Tryz.prog Z5Y:=by constructor<;>first|kernel_rfl|(intro;kernel_rfl)|exact fz
def Z5W:Go.Shelf.Ren:=⟨λ|4=>215|n=>n,λ|22=>49|25=>75|3=>3|4=>4|9=>9|20=>20|0=>0|n=>n,λ|n=>n⟩
theorem Z5X:Go.Proofs.Lays8.n4 Tryz.prog Z5W:=by constructor<;>first|kernel_rfl|(intro;kernel_rfl)|exact fz
def Z5U:Go.Shelf.Ren:=⟨λ|4=>223|n=>n,λ|22=>128|25=>179|3=>3|4=>4|9=>9|20=>20|0=>0|2=>3|n=>n,λ|n=>n⟩
theorem Z5V:Go.Proofs.Lays8.n4 Tryz.prog Z5U:=by constructor<;>first|kernel_rfl|(intro;kernel_rfl)|exact fz
end Go.Proofs
end
section
namespace Go.Ab
open Go.Proofs
theorem gN{x r:List Int}(h:Ui x=some r):G3 Tryz.prog 143 [.v (.c (.own 0))] [(0,AO (α:=Int) x)] .any [(0,AO (α:=Int) r)]:=Q6I Z6d h
theorem Q6M{x:List Span}{q:Span->Span->Option Int}{r:List Span}(h:JF x q=some r):G3 Tryz.prog 147 [.v (.c (.own 0)),.v (.c (.sem (Qg Tryz.prog (Q4p q))))] [(0,AO (α:=Span) x)] .any [(0,AO (α:=Span) r)]:=
 Q6P Zg Z6b (λ_=>rfl) (te:=⟨.struct [(0,3),(1,3)],2,16,[.d (.int .i64 0),.d (.int .i64 0)]⟩) (by kernel_rfl) rfl rfl Q4p (λq x y z a=>⟨x,y,z,a,rfl,rfl⟩) h
theorem Q6E{x r:List Int}{q:Int->Int->Option Int}(h:Vi x q=some r):G3 Tryz.prog 119 [.v (.c (.own 0)),.v (.c (.sem (Qg Tryz.prog (Q4s q))))] [(0,AO (α:=Int) x)] .any [(0,AO (α:=Int) r)]:=
 Q6F Z6f Q4s (λq x y z a=>⟨x,y,z,a,rfl,rfl⟩) h
theorem Z2Y{n:Int}{r:List Point}(h:GE n=some r):G3 Tryz.prog 223 [.v (.c (.fl 0 λ_=>[])),vi n] [] (.v (.c (.own 100))) [(100,AO (α:=Point) r)]:=
 ve Zg Z5V (te:=⟨.struct [(0,3),(1,3)],2,16,[.d (.int .i64 0),.d (.int .i64 0)]⟩) (by kernel_rfl) rfl (by decide) (by decide) rfl h
theorem Z2W{n:Int}{r:List Span}(h:GE n=some r):G3 Tryz.prog 203 [.v (.c (.fl 0 λ_=>[])),vi n] [] (.v (.c (.own 100))) [(100,AO (α:=Span) r)]:=
 ve Zg Z5Z (te:=⟨.struct [(0,3),(1,3)],2,16,[.d (.int .i64 0),.d (.int .i64 0)]⟩) (by kernel_rfl) rfl (by decide) (by decide) rfl h
theorem Z2X{n:Int}{r:List Rect}(h:GE n=some r):G3 Tryz.prog 215 [.v (.c (.fl 0 λ_=>[])),vi n] [] (.v (.c (.own 100))) [(100,AO (α:=Rect) r)]:=
 ve Zg Z5X (te:=⟨.struct [(0,3),(1,3),(2,3),(3,3)],4,32,[.d (.int .i64 0),.d (.int .i64 0),.d (.int .i64 0),.d (.int .i64 0)]⟩) (by kernel_rfl) rfl (by decide) (by decide) rfl h
theorem Q6L{x r:List Double}{q:Double->Double->Option Int}(h:Vi x q=some r):G3 Tryz.prog 64 [.v (.c (.own 0)),.v (.c (.sem (Qg Tryz.prog (Q4t q))))] [(0,AO (α:=Double) x)] .any [(0,AO (α:=Double) r)]:=
 Q6K Zg Z5T (te:=⟨.struct [(0,54),(1,92)],2,48,[.fl 0 λ_=>[],.fl 0 λ_=>[]]⟩) (by kernel_rfl) (by kernel_rfl) (by kernel_rfl) Q4t (λq x y z a=>⟨x,y,z,a,rfl,rfl⟩) h
end Go.Ab
end
