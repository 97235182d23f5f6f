/- The types of the program, its sorts and their contracts. -/
import Derived.Test.YtjafnaffdfaokaaGreatDoorPuB
import Derived.Test.YtjafnaffdfaokaaGreatDoorProg
import Derived.Shelf.SlGeneric
import Derived.Shelf.SortM.Plain
import Derived.Shelf.SortM.SortNone
import Derived.Shelf.SlSortCmp.WholeK
import Derived.Shelf.SlSortCmp.Whole1
import Derived.Shelf.SlSortCmp.NoneTotal
import Derived.Shelf.Spec.SlicesGrow
import Derived.Ground.SlgmProg
import Derived.Ground.SlsfProg
import Derived.Ground.Names8Prog
import Derived.Test.YtjafnaffdfaokaaGreatDoorAbC
set_option linter.unusedVariables false
set_option linter.unusedSimpArgs false
section
namespace Go.Ab
open Go.Proofs
set_option maxRecDepth 100000
def TT:List (Nat×TI):=[
 (3,⟨.int .i64,1,8,[.d (.int .i64 0)]⟩),
 (4,⟨.bool,1,1,[.d (.bool false)]⟩),
 (5,⟨.int .u8,1,1,[.d (.int .u8 0)]⟩),
 (9,⟨.str,1,16,[.d (.str ByteArray.empty)]⟩),
 (22,⟨.slice 3,1,24,[.fl 0 fun _=>[]]⟩),
 (23,⟨.other,1,8,[.d .any]⟩),
 (25,⟨.slice 101,1,24,[.fl 0 fun _=>[]]⟩),
 (26,⟨.slice 39,1,24,[.fl 0 fun _=>[]]⟩),
 (27,⟨.slice 44,1,24,[.fl 0 fun _=>[]]⟩),
 (30,⟨.slice 59,1,24,[.fl 0 fun _=>[]]⟩),
 (32,⟨.slice 170,1,24,[.fl 0 fun _=>[]]⟩),
 (33,⟨.slice 111,1,24,[.fl 0 fun _=>[]]⟩),
 (35,⟨.struct [(0,3),(1,25),(2,32),(3,33),(4,3),(5,3)],6,96,[.d (.int .i64 0),.fl 0 fun _=>[],.fl 0 fun _=>[],.fl 0 fun _=>[],.d (.int .i64 0),.d (.int .i64 0)]⟩),
 (37,⟨.slice 46,1,24,[.fl 0 fun _=>[]]⟩),
 (39,⟨.struct [(0,3),(1,37)],2,32,[.d (.int .i64 0),.fl 0 fun _=>[]]⟩),
 (41,⟨.struct [(0,3),(1,3),(2,3),(3,3)],4,32,[.d (.int .i64 0),.d (.int .i64 0),.d (.int .i64 0),.d (.int .i64 0)]⟩),
 (42,⟨.slice 41,1,24,[.fl 0 fun _=>[]]⟩),
 (44,⟨.struct [(0,42)],1,24,[.fl 0 fun _=>[]]⟩),
 (46,⟨.struct [(0,3),(1,44),(2,3),(3,3)],4,48,[.d (.int .i64 0),.fl 0 fun _=>[],.d (.int .i64 0),.d (.int .i64 0)]⟩),
 (47,⟨.int .i64,1,8,[.d (.int .i64 0)]⟩),
 (54,⟨.slice 56,1,24,[.fl 0 fun _=>[]]⟩),
 (56,⟨.struct [(0,3),(1,3),(2,3),(3,54)],4,48,[.d (.int .i64 0),.d (.int .i64 0),.d (.int .i64 0),.fl 0 fun _=>[]]⟩),
 (57,⟨.slice 75,1,24,[.fl 0 fun _=>[]]⟩),
 (59,⟨.struct [(0,3),(1,9),(2,56),(6,57),(7,3),(8,3),(9,4)],10,120,[.d (.int .i64 0),.d (.str ByteArray.empty),.d (.int .i64 0),.d (.int .i64 0),.d (.int .i64 0),.fl 0 fun _=>[],.fl 0 fun _=>[],.d (.int .i64 0),.d (.int .i64 0),.d (.bool false)]⟩),
 (65,⟨.struct [(0,22),(1,3)],2,32,[.fl 0 fun _=>[],.d (.int .i64 0)]⟩),
 (67,⟨.other,1,8,[.d .any]⟩),
 (73,⟨.other,1,8,[.d .any]⟩),
 (75,⟨.struct [(0,3),(1,3)],2,16,[.d (.int .i64 0),.d (.int .i64 0)]⟩),
 (80,⟨.other,1,8,[.d .any]⟩),
 (83,⟨.array 3 42,3,72,[.fl 0 fun _=>[],.fl 0 fun _=>[],.fl 0 fun _=>[]]⟩),
 (90,⟨.slice 98,1,24,[.fl 0 fun _=>[]]⟩),
 (94,⟨.slice 99,1,24,[.fl 0 fun _=>[]]⟩),
 (98,⟨.slice 134,1,24,[.fl 0 fun _=>[]]⟩),
 (99,⟨.slice 9,1,24,[.fl 0 fun _=>[]]⟩),
 (101,⟨.struct [(0,9),(1,3),(2,3)],3,32,[.d (.str ByteArray.empty),.d (.int .i64 0),.d (.int .i64 0)]⟩),
 (104,⟨.slice 5,1,24,[.fl 0 fun _=>[]]⟩),
 (111,⟨.struct [(0,3),(1,3),(2,3),(3,3),(4,44)],5,56,[.d (.int .i64 0),.d (.int .i64 0),.d (.int .i64 0),.d (.int .i64 0),.fl 0 fun _=>[]]⟩),
 (116,⟨.struct [(0,44),(1,44),(2,44)],3,72,[.fl 0 fun _=>[],.fl 0 fun _=>[],.fl 0 fun _=>[]]⟩),
 (119,⟨.array 3 44,3,72,[.fl 0 fun _=>[],.fl 0 fun _=>[],.fl 0 fun _=>[]]⟩),
 (122,⟨.other,1,8,[.d .any]⟩),
 (128,⟨.other,1,8,[.d .any]⟩),
 (130,⟨.slice 136,1,24,[.fl 0 fun _=>[]]⟩),
 (134,⟨.struct [(0,3),(1,3)],2,16,[.d (.int .i64 0),.d (.int .i64 0)]⟩),
 (136,⟨.struct [(0,134),(2,134)],4,32,[.d (.int .i64 0),.d (.int .i64 0),.d (.int .i64 0),.d (.int .i64 0)]⟩),
 (141,⟨.other,1,8,[.d .any]⟩),
 (163,⟨.slice 42,1,24,[.fl 0 fun _=>[]]⟩),
 (170,⟨.struct [(0,3),(1,3),(2,44)],3,40,[.d (.int .i64 0),.d (.int .i64 0),.fl 0 fun _=>[]]⟩),
 (175,⟨.slice 193,1,24,[.fl 0 fun _=>[]]⟩),
 (178,⟨.other,1,8,[.d .any]⟩),
 (180,⟨.other,1,8,[.d .any]⟩),
 (193,⟨.struct [(0,3),(1,3)],2,16,[.d (.int .i64 0),.d (.int .i64 0)]⟩),
 (201,⟨.int .u64,1,8,[.d (.int .u64 0)]⟩),
 (208,⟨.int .u64,1,8,[.d (.int .u64 0)]⟩),
 (210,⟨.struct [(0,208),(1,208)],2,16,[.d (.int .u64 0),.d (.int .u64 0)]⟩),
 (216,⟨.other,1,8,[.d .any]⟩),
 (217,⟨.slice 219,1,24,[.fl 0 fun _=>[]]⟩),
 (219,⟨.struct [(0,3),(1,3),(2,175)],3,40,[.d (.int .i64 0),.d (.int .i64 0),.fl 0 fun _=>[]]⟩),
 (227,⟨.other,1,8,[.d .any]⟩),
 (230,⟨.struct [(0,3),(1,25),(2,32),(3,33),(4,3)],5,88,[.d (.int .i64 0),.fl 0 fun _=>[],.fl 0 fun _=>[],.fl 0 fun _=>[],.d (.int .i64 0)]⟩),
 (232,⟨.struct [(0,230),(5,46),(9,42)],10,160,[.d (.int .i64 0),.fl 0 fun _=>[],.fl 0 fun _=>[],.fl 0 fun _=>[],.d (.int .i64 0),.d (.int .i64 0),.fl 0 fun _=>[],.d (.int .i64 0),.d (.int .i64 0),.fl 0 fun _=>[]]⟩),
 (234,⟨.struct [(0,42),(1,42),(2,42)],3,72,[.fl 0 fun _=>[],.fl 0 fun _=>[],.fl 0 fun _=>[]]⟩),
 (269,⟨.slice 175,1,24,[.fl 0 fun _=>[]]⟩),
 (272,⟨.other,1,8,[.d .any]⟩),
 (276,⟨.other,1,8,[.d .any]⟩),
 (278,⟨.slice 234,1,24,[.fl 0 fun _=>[]]⟩),
 (309,⟨.other,1,8,[.d .any]⟩),
 (315,⟨.other,1,8,[.d .any]⟩)]
theorem Z3Q:TT.map (fun p=>SI Tryz.prog p.1)=TT.map (fun p=>some p.2):=by kernel_rfl
theorem Zw:Qa Tryz.prog (Jg TT):=Q3W Z3Q
theorem Q8T:Tryz.prog.follows .mixedOrders=true:=by kernel_rfl
theorem Q0O:EqT Tryz.prog 41:=⟨by kernel_rfl,by kernel_rfl,by kernel_rfl⟩
theorem Z2h:EqT Tryz.prog 193:=⟨by kernel_rfl,by kernel_rfl,by kernel_rfl⟩
theorem Kr:VB (Jg TT) 22 ⟨.int .i64,1,8,[.d (.int .i64 0)]⟩:=⟨⟨.slice 3,1,24,[.fl 0 fun _=>[]]⟩,3,by kernel_rfl,by kernel_rfl,by kernel_rfl⟩
theorem gb:VB (Jg TT) 30 ⟨.struct [(0,3),(1,9),(2,56),(6,57),(7,3),(8,3),(9,4)],10,120,[.d (.int .i64 0),.d (.str ByteArray.empty),.d (.int .i64 0),.d (.int .i64 0),.d (.int .i64 0),.fl 0 fun _=>[],.fl 0 fun _=>[],.d (.int .i64 0),.d (.int .i64 0),.d (.bool false)]⟩:=⟨⟨.slice 59,1,24,[.fl 0 fun _=>[]]⟩,59,by kernel_rfl,by kernel_rfl,by kernel_rfl⟩
theorem Ld:VB (Jg TT) 32 ⟨.struct [(0,3),(1,3),(2,44)],3,40,[.d (.int .i64 0),.d (.int .i64 0),.fl 0 fun _=>[]]⟩:=⟨⟨.slice 170,1,24,[.fl 0 fun _=>[]]⟩,170,by kernel_rfl,by kernel_rfl,by kernel_rfl⟩
theorem kZ:VB (Jg TT) 33 ⟨.struct [(0,3),(1,3),(2,3),(3,3),(4,44)],5,56,[.d (.int .i64 0),.d (.int .i64 0),.d (.int .i64 0),.d (.int .i64 0),.fl 0 fun _=>[]]⟩:=⟨⟨.slice 111,1,24,[.fl 0 fun _=>[]]⟩,111,by kernel_rfl,by kernel_rfl,by kernel_rfl⟩
theorem Lc:VB (Jg TT) 42 ⟨.struct [(0,3),(1,3),(2,3),(3,3)],4,32,[.d (.int .i64 0),.d (.int .i64 0),.d (.int .i64 0),.d (.int .i64 0)]⟩:=⟨⟨.slice 41,1,24,[.fl 0 fun _=>[]]⟩,41,by kernel_rfl,by kernel_rfl,by kernel_rfl⟩
end Go.Ab
end
section
namespace Go.Proofs
open Go.Shelf
def Z3O:Go.Shelf.Ren:=⟨fun|5=>163|8=>137|7=>215|19=>198|20=>199|10=>248|11=>249|12=>250|13=>251|14=>252|15=>253|16=>254|17=>255|18=>256|30=>300|31=>236|32=>237|33=>301|34=>302|35=>153|40=>313|n=>n,fun|23=>22|25=>3|3=>3|32=>201|22=>22|0=>0|44=>256|46=>208|4=>4|36=>249|35=>248|41=>253|5=>5|9=>9|53=>285|57=>289|63=>325|64=>158|n=>n,fun|n=>n⟩
theorem Z3P:Go.Proofs.SlLaysM.n5 Tryz.prog Z3O:= {
 mixed:=by kernel_rfl
 f5:=⟨Tryz.f163.name,by decide,Tryz.func163.trans (congrArg some (by kernel_rfl))⟩
 f7:=⟨Tryz.f215.name,by decide,Tryz.func215.trans (congrArg some (by kernel_rfl))⟩
 f8:=Tryz.func137.trans (congrArg some (by kernel_rfl))
 f10:=⟨Tryz.f248.name,by decide,Tryz.func248.trans (congrArg some (by kernel_rfl))⟩
 f11:=⟨Tryz.f249.name,by decide,Tryz.func249.trans (congrArg some (by kernel_rfl))⟩
 f12:=⟨Tryz.f250.name,by decide,Tryz.func250.trans (congrArg some (by kernel_rfl))⟩
 f13:=⟨Tryz.f251.name,by decide,Tryz.func251.trans (congrArg some (by kernel_rfl))⟩
 f14:=⟨Tryz.f252.name,by decide,Tryz.func252.trans (congrArg some (by kernel_rfl))⟩
 f15:=⟨Tryz.f253.name,by decide,Tryz.func253.trans (congrArg some (by kernel_rfl))⟩
 f16:=⟨Tryz.f254.name,by decide,Tryz.func254.trans (congrArg some (by kernel_rfl))⟩
 f17:=⟨Tryz.f255.name,by decide,Tryz.func255.trans (congrArg some (by kernel_rfl))⟩
 f18:=⟨Tryz.f256.name,by decide,Tryz.func256.trans (congrArg some (by kernel_rfl))⟩
 f19:=Tryz.func198.trans (congrArg some (by kernel_rfl))
 f20:=Tryz.func199.trans (congrArg some (by kernel_rfl))
 f30:=⟨Tryz.f300.name,by decide,Tryz.func300.trans (congrArg some (by kernel_rfl))⟩
 f31:=Tryz.func236.trans (congrArg some (by kernel_rfl))
 f32:=Tryz.func237.trans (congrArg some (by kernel_rfl))
 f33:=⟨Tryz.f301.name,by decide,Tryz.func301.trans (congrArg some (by kernel_rfl))⟩
 f34:=⟨Tryz.f302.name,by decide,Tryz.func302.trans (congrArg some (by kernel_rfl))⟩
 f35:=⟨Tryz.f153.name,by decide,Tryz.func153.trans (congrArg some (by kernel_rfl))⟩
 f40:=⟨Tryz.f313.name,by decide,Tryz.func313.trans (congrArg some (by kernel_rfl))⟩
 t0:=Tryz.underlying0
 a0:=Tryz.isAgg0
 z0:=Tryz.sizeOf0
 v0:=Tryz.zeroValue0
 t3:=Tryz.underlying3
 a3:=Tryz.isAgg3
 z3:=Tryz.sizeOf3
 v3:=Tryz.zeroValue3
 t4:=Tryz.underlying4
 a4:=Tryz.isAgg4
 z4:=Tryz.sizeOf4
 v4:=Tryz.zeroValue4
 t5:=Tryz.underlying5
 a5:=Tryz.isAgg5
 z5:=Tryz.sizeOf5
 v5:=Tryz.zeroValue5
 t9:=Tryz.underlying9
 a9:=Tryz.isAgg9
 z9:=Tryz.sizeOf9
 v9:=Tryz.zeroValue9
 t22:=Tryz.underlying22
 a22:=Tryz.isAgg22
 z22:=Tryz.sizeOf22
 v22:=Tryz.zeroValue22
 t23:=Tryz.underlying22
 a23:=Tryz.isAgg22
 z23:=Tryz.sizeOf22
 v23:=Tryz.zeroValue22
 t25:=Tryz.underlying3
 a25:=Tryz.isAgg3
 z25:=Tryz.sizeOf3
 v25:=Tryz.zeroValue3
 t32:=Tryz.underlying201
 a32:=Tryz.isAgg201
 z32:=Tryz.sizeOf201
 v32:=Tryz.zeroValue201
 t35:=Tryz.underlying248
 a35:=Tryz.isAgg248
 z35:=Tryz.sizeOf248
 v35:=Tryz.zeroValue248
 t36:=Tryz.underlying249
 a36:=Tryz.isAgg249
 z36:=Tryz.sizeOf249
 v36:=Tryz.zeroValue249
 t41:=Tryz.underlying253
 a41:=Tryz.isAgg253
 z41:=Tryz.sizeOf253
 v41:=Tryz.zeroValue253
 t44:=Tryz.underlying256
 a44:=Tryz.isAgg256
 z44:=Tryz.sizeOf256
 v44:=Tryz.zeroValue256
 t46:=Tryz.underlying208
 a46:=Tryz.isAgg208
 z46:=Tryz.sizeOf208
 v46:=Tryz.zeroValue208
 t53:=Tryz.underlying285
 a53:=Tryz.isAgg285
 z53:=Tryz.sizeOf285
 v53:=Tryz.zeroValue285
 t57:=Tryz.underlying289
 a57:=Tryz.isAgg289
 z57:=Tryz.sizeOf289
 v57:=Tryz.zeroValue289
 t63:=Tryz.underlying325
 a63:=Tryz.isAgg325
 z63:=Tryz.sizeOf325
 v63:=Tryz.zeroValue325
 t64:=Tryz.underlying158
 a64:=Tryz.isAgg158
 z64:=Tryz.sizeOf158
 v64:=Tryz.zeroValue158 }
def Z3M:Go.Shelf.Ren:=⟨fun|6=>167|15=>137|14=>219|28=>198|29=>199|20=>258|21=>259|22=>260|23=>261|24=>262|25=>263|26=>264|27=>265|46=>303|47=>236|48=>237|49=>304|50=>305|57=>314|n=>n,fun|22=>175|24=>193|25=>227|3=>3|39=>201|0=>0|53=>256|55=>208|4=>4|46=>249|45=>248|50=>253|5=>5|9=>9|66=>285|70=>289|76=>325|77=>158|n=>n,fun|n=>n⟩
theorem Z3N:Go.Proofs.SlLaysF0.n6 Tryz.prog Z3M:= {
 mixed:=by kernel_rfl
 f6:=⟨Tryz.f167.name,by decide,Tryz.func167.trans (congrArg some (by kernel_rfl))⟩
 f14:=⟨Tryz.f219.name,by decide,Tryz.func219.trans (congrArg some (by kernel_rfl))⟩
 f15:=Tryz.func137.trans (congrArg some (by kernel_rfl))
 f20:=⟨Tryz.f258.name,by decide,Tryz.func258.trans (congrArg some (by kernel_rfl))⟩
 f21:=⟨Tryz.f259.name,by decide,Tryz.func259.trans (congrArg some (by kernel_rfl))⟩
 f22:=⟨Tryz.f260.name,by decide,Tryz.func260.trans (congrArg some (by kernel_rfl))⟩
 f23:=⟨Tryz.f261.name,by decide,Tryz.func261.trans (congrArg some (by kernel_rfl))⟩
 f24:=⟨Tryz.f262.name,by decide,Tryz.func262.trans (congrArg some (by kernel_rfl))⟩
 f25:=⟨Tryz.f263.name,by decide,Tryz.func263.trans (congrArg some (by kernel_rfl))⟩
 f26:=⟨Tryz.f264.name,by decide,Tryz.func264.trans (congrArg some (by kernel_rfl))⟩
 f27:=⟨Tryz.f265.name,by decide,Tryz.func265.trans (congrArg some (by kernel_rfl))⟩
 f28:=Tryz.func198.trans (congrArg some (by kernel_rfl))
 f29:=Tryz.func199.trans (congrArg some (by kernel_rfl))
 f46:=⟨Tryz.f303.name,by decide,Tryz.func303.trans (congrArg some (by kernel_rfl))⟩
 f47:=Tryz.func236.trans (congrArg some (by kernel_rfl))
 f48:=Tryz.func237.trans (congrArg some (by kernel_rfl))
 f49:=⟨Tryz.f304.name,by decide,Tryz.func304.trans (congrArg some (by kernel_rfl))⟩
 f50:=⟨Tryz.f305.name,by decide,Tryz.func305.trans (congrArg some (by kernel_rfl))⟩
 f57:=⟨Tryz.f314.name,by decide,Tryz.func314.trans (congrArg some (by kernel_rfl))⟩
 t0:=Tryz.underlying0
 a0:=Tryz.isAgg0
 z0:=Tryz.sizeOf0
 v0:=Tryz.zeroValue0
 t3:=Tryz.underlying3
 a3:=Tryz.isAgg3
 z3:=Tryz.sizeOf3
 v3:=Tryz.zeroValue3
 t4:=Tryz.underlying4
 a4:=Tryz.isAgg4
 z4:=Tryz.sizeOf4
 v4:=Tryz.zeroValue4
 t5:=Tryz.underlying5
 a5:=Tryz.isAgg5
 z5:=Tryz.sizeOf5
 v5:=Tryz.zeroValue5
 t9:=Tryz.underlying9
 a9:=Tryz.isAgg9
 z9:=Tryz.sizeOf9
 v9:=Tryz.zeroValue9
 t22:=Tryz.underlying175
 a22:=Tryz.isAgg175
 z22:=Tryz.sizeOf175
 v22:=Tryz.zeroValue175
 t25:=Tryz.underlying227
 a25:=Tryz.isAgg227
 z25:=Tryz.sizeOf227
 v25:=Tryz.zeroValue227
 t39:=Tryz.underlying201
 a39:=Tryz.isAgg201
 z39:=Tryz.sizeOf201
 v39:=Tryz.zeroValue201
 t45:=Tryz.underlying248
 a45:=Tryz.isAgg248
 z45:=Tryz.sizeOf248
 v45:=Tryz.zeroValue248
 t46:=Tryz.underlying249
 a46:=Tryz.isAgg249
 z46:=Tryz.sizeOf249
 v46:=Tryz.zeroValue249
 t50:=Tryz.underlying253
 a50:=Tryz.isAgg253
 z50:=Tryz.sizeOf253
 v50:=Tryz.zeroValue253
 t53:=Tryz.underlying256
 a53:=Tryz.isAgg256
 z53:=Tryz.sizeOf256
 v53:=Tryz.zeroValue256
 t55:=Tryz.underlying208
 a55:=Tryz.isAgg208
 z55:=Tryz.sizeOf208
 v55:=Tryz.zeroValue208
 t66:=Tryz.underlying285
 a66:=Tryz.isAgg285
 z66:=Tryz.sizeOf285
 v66:=Tryz.zeroValue285
 t70:=Tryz.underlying289
 a70:=Tryz.isAgg289
 z70:=Tryz.sizeOf289
 v70:=Tryz.zeroValue289
 t76:=Tryz.underlying325
 a76:=Tryz.isAgg325
 z76:=Tryz.sizeOf325
 v76:=Tryz.zeroValue325
 t77:=Tryz.underlying158
 a77:=Tryz.isAgg158
 z77:=Tryz.sizeOf158
 v77:=Tryz.zeroValue158 }
def Z3E:Go.Shelf.Ren:=⟨fun|6=>88|15=>137|14=>152|28=>198|29=>199|20=>206|21=>207|22=>208|23=>209|24=>210|25=>211|26=>212|27=>213|46=>245|47=>236|48=>237|49=>246|50=>247|57=>299|n=>n,fun|22=>22|24=>3|25=>67|3=>3|39=>201|0=>0|53=>256|55=>208|4=>4|46=>249|45=>248|50=>253|5=>5|9=>9|66=>285|70=>289|76=>325|77=>158|n=>n,fun|n=>n⟩
theorem Z3F:Go.Proofs.SlLaysF.n6 Tryz.prog Z3E:= {
 mixed:=by kernel_rfl
 f6:=⟨Tryz.f88.name,by decide,Tryz.func88.trans (congrArg some (by kernel_rfl))⟩
 f14:=⟨Tryz.f152.name,by decide,Tryz.func152.trans (congrArg some (by kernel_rfl))⟩
 f15:=Tryz.func137.trans (congrArg some (by kernel_rfl))
 f20:=⟨Tryz.f206.name,by decide,Tryz.func206.trans (congrArg some (by kernel_rfl))⟩
 f21:=⟨Tryz.f207.name,by decide,Tryz.func207.trans (congrArg some (by kernel_rfl))⟩
 f22:=⟨Tryz.f208.name,by decide,Tryz.func208.trans (congrArg some (by kernel_rfl))⟩
 f23:=⟨Tryz.f209.name,by decide,Tryz.func209.trans (congrArg some (by kernel_rfl))⟩
 f24:=⟨Tryz.f210.name,by decide,Tryz.func210.trans (congrArg some (by kernel_rfl))⟩
 f25:=⟨Tryz.f211.name,by decide,Tryz.func211.trans (congrArg some (by kernel_rfl))⟩
 f26:=⟨Tryz.f212.name,by decide,Tryz.func212.trans (congrArg some (by kernel_rfl))⟩
 f27:=⟨Tryz.f213.name,by decide,Tryz.func213.trans (congrArg some (by kernel_rfl))⟩
 f28:=Tryz.func198.trans (congrArg some (by kernel_rfl))
 f29:=Tryz.func199.trans (congrArg some (by kernel_rfl))
 f46:=⟨Tryz.f245.name,by decide,Tryz.func245.trans (congrArg some (by kernel_rfl))⟩
 f47:=Tryz.func236.trans (congrArg some (by kernel_rfl))
 f48:=Tryz.func237.trans (congrArg some (by kernel_rfl))
 f49:=⟨Tryz.f246.name,by decide,Tryz.func246.trans (congrArg some (by kernel_rfl))⟩
 f50:=⟨Tryz.f247.name,by decide,Tryz.func247.trans (congrArg some (by kernel_rfl))⟩
 f57:=⟨Tryz.f299.name,by decide,Tryz.func299.trans (congrArg some (by kernel_rfl))⟩
 t0:=Tryz.underlying0
 a0:=Tryz.isAgg0
 z0:=Tryz.sizeOf0
 v0:=Tryz.zeroValue0
 t3:=Tryz.underlying3
 a3:=Tryz.isAgg3
 z3:=Tryz.sizeOf3
 v3:=Tryz.zeroValue3
 t4:=Tryz.underlying4
 a4:=Tryz.isAgg4
 z4:=Tryz.sizeOf4
 v4:=Tryz.zeroValue4
 t5:=Tryz.underlying5
 a5:=Tryz.isAgg5
 z5:=Tryz.sizeOf5
 v5:=Tryz.zeroValue5
 t9:=Tryz.underlying9
 a9:=Tryz.isAgg9
 z9:=Tryz.sizeOf9
 v9:=Tryz.zeroValue9
 t22:=Tryz.underlying22
 a22:=Tryz.isAgg22
 z22:=Tryz.sizeOf22
 v22:=Tryz.zeroValue22
 a24:=Tryz.isAgg3
 z24:=Tryz.sizeOf3
 t25:=Tryz.underlying67
 a25:=Tryz.isAgg67
 z25:=Tryz.sizeOf67
 v25:=Tryz.zeroValue67
 t39:=Tryz.underlying201
 a39:=Tryz.isAgg201
 z39:=Tryz.sizeOf201
 v39:=Tryz.zeroValue201
 t45:=Tryz.underlying248
 a45:=Tryz.isAgg248
 z45:=Tryz.sizeOf248
 v45:=Tryz.zeroValue248
 t46:=Tryz.underlying249
 a46:=Tryz.isAgg249
 z46:=Tryz.sizeOf249
 v46:=Tryz.zeroValue249
 t50:=Tryz.underlying253
 a50:=Tryz.isAgg253
 z50:=Tryz.sizeOf253
 v50:=Tryz.zeroValue253
 t53:=Tryz.underlying256
 a53:=Tryz.isAgg256
 z53:=Tryz.sizeOf256
 v53:=Tryz.zeroValue256
 t55:=Tryz.underlying208
 a55:=Tryz.isAgg208
 z55:=Tryz.sizeOf208
 v55:=Tryz.zeroValue208
 t66:=Tryz.underlying285
 a66:=Tryz.isAgg285
 z66:=Tryz.sizeOf285
 v66:=Tryz.zeroValue285
 t70:=Tryz.underlying289
 a70:=Tryz.isAgg289
 z70:=Tryz.sizeOf289
 v70:=Tryz.zeroValue289
 t76:=Tryz.underlying325
 a76:=Tryz.isAgg325
 z76:=Tryz.sizeOf325
 v76:=Tryz.zeroValue325
 t77:=Tryz.underlying158
 a77:=Tryz.isAgg158
 z77:=Tryz.sizeOf158
 v77:=Tryz.zeroValue158 }
def Z3G:Go.Shelf.Ren:=⟨fun|4=>216|n=>n,fun|22=>175|25=>193|3=>3|4=>4|9=>9|20=>20|0=>0|2=>3|n=>n,fun|n=>n⟩
theorem Z3H:Go.Proofs.Lays8.n4 Tryz.prog Z3G:= {
 mixed:=by kernel_rfl
 f4:=⟨Tryz.f216.name,by decide,Tryz.func216.trans (congrArg some (by kernel_rfl))⟩
 t0:=Tryz.underlying0
 a0:=Tryz.isAgg0
 z0:=Tryz.sizeOf0
 v0:=Tryz.zeroValue0
 t3:=Tryz.underlying3
 a3:=Tryz.isAgg3
 z3:=Tryz.sizeOf3
 v3:=Tryz.zeroValue3
 t4:=Tryz.underlying4
 a4:=Tryz.isAgg4
 z4:=Tryz.sizeOf4
 v4:=Tryz.zeroValue4
 t9:=Tryz.underlying9
 a9:=Tryz.isAgg9
 z9:=Tryz.sizeOf9
 v9:=Tryz.zeroValue9
 t20:=Tryz.underlying20
 a20:=Tryz.isAgg20
 z20:=Tryz.sizeOf20
 v20:=Tryz.zeroValue20
 t22:=Tryz.underlying175
 a22:=Tryz.isAgg175
 z22:=Tryz.sizeOf175
 v22:=Tryz.zeroValue175 }
def Z3K:Go.Shelf.Ren:=⟨fun|4=>181|n=>n,fun|22=>42|25=>41|3=>3|4=>4|9=>9|20=>20|0=>0|n=>n,fun|n=>n⟩
theorem Z3L:Go.Proofs.Lays8.n4 Tryz.prog Z3K:= {
 mixed:=by kernel_rfl
 f4:=⟨Tryz.f181.name,by decide,Tryz.func181.trans (congrArg some (by kernel_rfl))⟩
 t0:=Tryz.underlying0
 a0:=Tryz.isAgg0
 z0:=Tryz.sizeOf0
 v0:=Tryz.zeroValue0
 t3:=Tryz.underlying3
 a3:=Tryz.isAgg3
 z3:=Tryz.sizeOf3
 v3:=Tryz.zeroValue3
 t4:=Tryz.underlying4
 a4:=Tryz.isAgg4
 z4:=Tryz.sizeOf4
 v4:=Tryz.zeroValue4
 t9:=Tryz.underlying9
 a9:=Tryz.isAgg9
 z9:=Tryz.sizeOf9
 v9:=Tryz.zeroValue9
 t20:=Tryz.underlying20
 a20:=Tryz.isAgg20
 z20:=Tryz.sizeOf20
 v20:=Tryz.zeroValue20
 t22:=Tryz.underlying42
 a22:=Tryz.isAgg42
 z22:=Tryz.sizeOf42
 v22:=Tryz.zeroValue42 }
def Z3I:Go.Shelf.Ren:=⟨fun|4=>189|n=>n,fun|22=>98|25=>134|3=>3|4=>4|9=>9|20=>20|0=>0|2=>3|n=>n,fun|n=>n⟩
theorem Z3J:Go.Proofs.Lays8.n4 Tryz.prog Z3I:= {
 mixed:=by kernel_rfl
 f4:=⟨Tryz.f189.name,by decide,Tryz.func189.trans (congrArg some (by kernel_rfl))⟩
 t0:=Tryz.underlying0
 a0:=Tryz.isAgg0
 z0:=Tryz.sizeOf0
 v0:=Tryz.zeroValue0
 t3:=Tryz.underlying3
 a3:=Tryz.isAgg3
 z3:=Tryz.sizeOf3
 v3:=Tryz.zeroValue3
 t4:=Tryz.underlying4
 a4:=Tryz.isAgg4
 z4:=Tryz.sizeOf4
 v4:=Tryz.zeroValue4
 t9:=Tryz.underlying9
 a9:=Tryz.isAgg9
 z9:=Tryz.sizeOf9
 v9:=Tryz.zeroValue9
 t20:=Tryz.underlying20
 a20:=Tryz.isAgg20
 z20:=Tryz.sizeOf20
 v20:=Tryz.zeroValue20
 t22:=Tryz.underlying98
 a22:=Tryz.isAgg98
 z22:=Tryz.sizeOf98
 v22:=Tryz.zeroValue98 }
end Go.Proofs
end
section
namespace Go.Ab
open Go.Proofs
theorem xT{x r:List Int}(h:VU x=some r):G6 Tryz.prog 163 [.v (.c (.own 0))] [(0,AO (α:=Int) x)] .any [(0,AO (α:=Int) r)]:=Q4U Z3P h
theorem Q4Y{x:List Span}{q:Span->Span->Option Int}{r:List Span}(h:Jh x q=some r):G6 Tryz.prog 167 [.v (.c (.own 0)),.v (.c (.sem (Qs Tryz.prog (Q2C q))))] [(0,AO (α:=Span) x)] .any [(0,AO (α:=Span) r)]:=
 Q5b Zw Z3N (fun _=>rfl) (te:=⟨.struct [(0,3),(1,3)],2,16,[.d (.int .i64 0),.d (.int .i64 0)]⟩) (by kernel_rfl) rfl rfl Q2C (fun q x y z a=>⟨x,y,z,a,rfl,rfl⟩) h
theorem Q4Q{x r:List Int}{q:Int->Int->Option Int}(h:Vz x q=some r):G6 Tryz.prog 88 [.v (.c (.own 0)),.v (.c (.sem (Qs Tryz.prog (Q2E q))))] [(0,AO (α:=Int) x)] .any [(0,AO (α:=Int) r)]:=
 Q4R Z3F Q2E (fun q x y z a=>⟨x,y,z,a,rfl,rfl⟩) h
theorem Z1n{n:Int}{r:List Point}(h:Uf n=some r):G6 Tryz.prog 189 [.v (.c (.fl 0 fun _=>[])),vi n] [] (.v (.c (.own 100))) [(100,AO (α:=Point) r)]:=
 zU Zw Z3J (te:=⟨.struct [(0,3),(1,3)],2,16,[.d (.int .i64 0),.d (.int .i64 0)]⟩) (by kernel_rfl) rfl (by decide) (by decide) rfl h
theorem Z1l{n:Int}{r:List Span}(h:Uf n=some r):G6 Tryz.prog 216 [.v (.c (.fl 0 fun _=>[])),vi n] [] (.v (.c (.own 100))) [(100,AO (α:=Span) r)]:=
 zU Zw Z3H (te:=⟨.struct [(0,3),(1,3)],2,16,[.d (.int .i64 0),.d (.int .i64 0)]⟩) (by kernel_rfl) rfl (by decide) (by decide) rfl h
theorem Z1m{n:Int}{r:List Rect}(h:Uf n=some r):G6 Tryz.prog 181 [.v (.c (.fl 0 fun _=>[])),vi n] [] (.v (.c (.own 100))) [(100,AO (α:=Rect) r)]:=
 zU Zw Z3L (te:=⟨.struct [(0,3),(1,3),(2,3),(3,3)],4,32,[.d (.int .i64 0),.d (.int .i64 0),.d (.int .i64 0),.d (.int .i64 0)]⟩) (by kernel_rfl) rfl (by decide) (by decide) rfl h
end Go.Ab
end
