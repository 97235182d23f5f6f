/- The types of the program, its sorts and their contracts. -/
import Derived.Test.YtgfmopdbhjcpfaaGreatPuB
import Derived.Test.YtgfmopdbhjcpfaaGreatProg
import Derived.Shelf.SlGeneric
import Derived.Shelf.SortM.Plain
import Derived.Shelf.SortM.SortNone
import Derived.Shelf.SlSortCmp.WholeK
import Derived.Shelf.SlSortCmp.NoneTotal
import Derived.Shelf.Spec.SlicesGrow
import Derived.Ground.SlgmProg
import Derived.Ground.SlsfProg
import Derived.Ground.Names8Prog
import Derived.Test.YtgfmopdbhjcpfaaGreatAbC
set_option linter.unusedVariables false
set_option linter.unusedSimpArgs false
section
namespace Go.Ab
open Go.Proofs
set_option maxRecDepth 100000
def TT:List (Nat×TI):=[
 (3,⟨.int .i64,1,8,[.d (.int .i64 0)]⟩),
 (4,⟨.bool,1,1,[.d (.bool false)]⟩),
 (5,⟨.int .u8,1,1,[.d (.int .u8 0)]⟩),
 (9,⟨.str,1,16,[.d (.str ByteArray.empty)]⟩),
 (22,⟨.slice 3,1,24,[.fl 0 fun _=>[]]⟩),
 (23,⟨.slice 52,1,24,[.fl 0 fun _=>[]]⟩),
 (24,⟨.slice 32,1,24,[.fl 0 fun _=>[]]⟩),
 (26,⟨.other,1,8,[.d .any]⟩),
 (30,⟨.slice 85,1,24,[.fl 0 fun _=>[]]⟩),
 (32,⟨.struct [(0,30)],1,24,[.fl 0 fun _=>[]]⟩),
 (37,⟨.int .i64,1,8,[.d (.int .i64 0)]⟩),
 (47,⟨.slice 49,1,24,[.fl 0 fun _=>[]]⟩),
 (49,⟨.struct [(0,3),(1,3),(2,3),(3,47)],4,48,[.d (.int .i64 0),.d (.int .i64 0),.d (.int .i64 0),.fl 0 fun _=>[]]⟩),
 (50,⟨.slice 92,1,24,[.fl 0 fun _=>[]]⟩),
 (52,⟨.struct [(0,3),(1,9),(2,49),(6,50),(7,3),(8,3),(9,4)],10,120,[.d (.int .i64 0),.d (.str ByteArray.empty),.d (.int .i64 0),.d (.int .i64 0),.d (.int .i64 0),.fl 0 fun _=>[],.fl 0 fun _=>[],.d (.int .i64 0),.d (.int .i64 0),.d (.bool false)]⟩),
 (58,⟨.slice 108,1,24,[.fl 0 fun _=>[]]⟩),
 (60,⟨.slice 71,1,24,[.fl 0 fun _=>[]]⟩),
 (65,⟨.slice 127,1,24,[.fl 0 fun _=>[]]⟩),
 (66,⟨.slice 80,1,24,[.fl 0 fun _=>[]]⟩),
 (68,⟨.struct [(0,3),(1,58),(2,65),(3,66),(4,3),(5,3)],6,96,[.d (.int .i64 0),.fl 0 fun _=>[],.fl 0 fun _=>[],.fl 0 fun _=>[],.d (.int .i64 0),.d (.int .i64 0)]⟩),
 (71,⟨.struct [(0,3),(1,32),(2,3),(3,3)],4,48,[.d (.int .i64 0),.fl 0 fun _=>[],.d (.int .i64 0),.d (.int .i64 0)]⟩),
 (75,⟨.struct [(0,32),(1,32),(2,32)],3,72,[.fl 0 fun _=>[],.fl 0 fun _=>[],.fl 0 fun _=>[]]⟩),
 (80,⟨.struct [(0,3),(1,3),(2,3),(3,3),(4,32)],5,56,[.d (.int .i64 0),.d (.int .i64 0),.d (.int .i64 0),.d (.int .i64 0),.fl 0 fun _=>[]]⟩),
 (85,⟨.struct [(0,3),(1,3),(2,3),(3,3)],4,32,[.d (.int .i64 0),.d (.int .i64 0),.d (.int .i64 0),.d (.int .i64 0)]⟩),
 (92,⟨.struct [(0,3),(1,3)],2,16,[.d (.int .i64 0),.d (.int .i64 0)]⟩),
 (94,⟨.struct [(0,22),(1,3)],2,32,[.fl 0 fun _=>[],.d (.int .i64 0)]⟩),
 (95,⟨.other,1,8,[.d .any]⟩),
 (104,⟨.other,1,8,[.d .any]⟩),
 (106,⟨.slice 9,1,24,[.fl 0 fun _=>[]]⟩),
 (108,⟨.struct [(0,9),(1,3),(2,3)],3,32,[.d (.str ByteArray.empty),.d (.int .i64 0),.d (.int .i64 0)]⟩),
 (119,⟨.array 3 30,3,72,[.fl 0 fun _=>[],.fl 0 fun _=>[],.fl 0 fun _=>[]]⟩),
 (122,⟨.other,1,8,[.d .any]⟩),
 (127,⟨.struct [(0,3),(1,3),(2,32)],3,40,[.d (.int .i64 0),.d (.int .i64 0),.fl 0 fun _=>[]]⟩),
 (131,⟨.struct [(0,30),(1,30),(2,30)],3,72,[.fl 0 fun _=>[],.fl 0 fun _=>[],.fl 0 fun _=>[]]⟩),
 (133,⟨.struct [(0,71),(4,3),(5,58),(6,65),(7,66),(8,3)],9,136,[.d (.int .i64 0),.fl 0 fun _=>[],.d (.int .i64 0),.d (.int .i64 0),.d (.int .i64 0),.fl 0 fun _=>[],.fl 0 fun _=>[],.fl 0 fun _=>[],.d (.int .i64 0)]⟩),
 (150,⟨.int .u64,1,8,[.d (.int .u64 0)]⟩),
 (155,⟨.slice 30,1,24,[.fl 0 fun _=>[]]⟩),
 (158,⟨.slice 5,1,24,[.fl 0 fun _=>[]]⟩),
 (167,⟨.struct [(0,3),(1,58),(2,65),(3,66),(4,3)],5,88,[.d (.int .i64 0),.fl 0 fun _=>[],.fl 0 fun _=>[],.fl 0 fun _=>[],.d (.int .i64 0)]⟩),
 (169,⟨.struct [(0,167),(5,71),(9,30)],10,160,[.d (.int .i64 0),.fl 0 fun _=>[],.fl 0 fun _=>[],.fl 0 fun _=>[],.d (.int .i64 0),.d (.int .i64 0),.fl 0 fun _=>[],.d (.int .i64 0),.d (.int .i64 0),.fl 0 fun _=>[]]⟩),
 (171,⟨.struct [(0,30),(1,30),(2,30)],3,72,[.fl 0 fun _=>[],.fl 0 fun _=>[],.fl 0 fun _=>[]]⟩),
 (175,⟨.array 3 32,3,72,[.fl 0 fun _=>[],.fl 0 fun _=>[],.fl 0 fun _=>[]]⟩),
 (178,⟨.slice 216,1,24,[.fl 0 fun _=>[]]⟩),
 (181,⟨.other,1,8,[.d .any]⟩),
 (184,⟨.other,1,8,[.d .any]⟩),
 (192,⟨.other,1,8,[.d .any]⟩),
 (194,⟨.other,1,8,[.d .any]⟩),
 (201,⟨.other,1,8,[.d .any]⟩),
 (203,⟨.slice 171,1,24,[.fl 0 fun _=>[]]⟩),
 (211,⟨.slice 213,1,24,[.fl 0 fun _=>[]]⟩),
 (213,⟨.struct [(0,3),(1,3),(2,178)],3,40,[.d (.int .i64 0),.d (.int .i64 0),.fl 0 fun _=>[]]⟩),
 (216,⟨.struct [(0,3),(1,3)],2,16,[.d (.int .i64 0),.d (.int .i64 0)]⟩),
 (223,⟨.other,1,8,[.d .any]⟩),
 (228,⟨.other,1,8,[.d .any]⟩),
 (232,⟨.other,1,8,[.d .any]⟩),
 (248,⟨.slice 178,1,24,[.fl 0 fun _=>[]]⟩),
 (251,⟨.other,1,8,[.d .any]⟩),
 (270,⟨.int .u64,1,8,[.d (.int .u64 0)]⟩)]
theorem W3Y:TT.map (fun p=>Y7X Tryz.prog p.1)=TT.map (fun p=>some p.2):=by kernel_rfl
theorem Q0k:LOk Tryz.prog (Y5A TT):=W2T W3Y
theorem Y7c:Tryz.prog.follows .mixedOrders=true:=by kernel_rfl
theorem W2I:EqT Tryz.prog 85:=⟨by kernel_rfl,by kernel_rfl,by kernel_rfl⟩
theorem W3i:EqT Tryz.prog 216:=⟨by kernel_rfl,by kernel_rfl,by kernel_rfl⟩
theorem Y2t:slT (Y5A TT) 22 ⟨.int .i64,1,8,[.d (.int .i64 0)]⟩:=⟨⟨.slice 3,1,24,[.fl 0 fun _=>[]]⟩,3,by kernel_rfl,by kernel_rfl,by kernel_rfl⟩
theorem W2D:slT (Y5A TT) 23 ⟨.struct [(0,3),(1,9),(2,49),(6,50),(7,3),(8,3),(9,4)],10,120,[.d (.int .i64 0),.d (.str ByteArray.empty),.d (.int .i64 0),.d (.int .i64 0),.d (.int .i64 0),.fl 0 fun _=>[],.fl 0 fun _=>[],.d (.int .i64 0),.d (.int .i64 0),.d (.bool false)]⟩:=⟨⟨.slice 52,1,24,[.fl 0 fun _=>[]]⟩,52,by kernel_rfl,by kernel_rfl,by kernel_rfl⟩
theorem Y9F:slT (Y5A TT) 30 ⟨.struct [(0,3),(1,3),(2,3),(3,3)],4,32,[.d (.int .i64 0),.d (.int .i64 0),.d (.int .i64 0),.d (.int .i64 0)]⟩:=⟨⟨.slice 85,1,24,[.fl 0 fun _=>[]]⟩,85,by kernel_rfl,by kernel_rfl,by kernel_rfl⟩
theorem Y9E:slT (Y5A TT) 65 ⟨.struct [(0,3),(1,3),(2,32)],3,40,[.d (.int .i64 0),.d (.int .i64 0),.fl 0 fun _=>[]]⟩:=⟨⟨.slice 127,1,24,[.fl 0 fun _=>[]]⟩,127,by kernel_rfl,by kernel_rfl,by kernel_rfl⟩
theorem W2C:slT (Y5A TT) 66 ⟨.struct [(0,3),(1,3),(2,3),(3,3),(4,32)],5,56,[.d (.int .i64 0),.d (.int .i64 0),.d (.int .i64 0),.d (.int .i64 0),.fl 0 fun _=>[]]⟩:=⟨⟨.slice 80,1,24,[.fl 0 fun _=>[]]⟩,80,by kernel_rfl,by kernel_rfl,by kernel_rfl⟩
end Go.Ab
end
section
namespace Go.Proofs
open Go.Shelf
def Tryz.lay189_ren:Go.Shelf.Ren:=⟨fun|5=>189|8=>232|7=>231|19=>257|20=>258|10=>248|11=>249|12=>250|13=>251|14=>252|15=>253|16=>254|17=>255|18=>256|30=>271|31=>272|32=>273|33=>274|34=>275|35=>237|40=>279|n=>n,fun|23=>22|25=>3|3=>3|32=>150|22=>22|0=>0|44=>268|46=>270|4=>4|36=>260|35=>259|41=>265|5=>5|9=>9|53=>277|57=>281|63=>285|64=>242|n=>n,fun|n=>n⟩
theorem Tryz.lay189:Go.Proofs.SlLaysM.n5 Tryz.prog Tryz.lay189_ren:= {
 mixed:=by kernel_rfl
 f5:=⟨Tryz.f189.name,by decide,Tryz.func189.trans (congrArg some (by kernel_rfl))⟩
 f7:=⟨Tryz.f231.name,by decide,Tryz.func231.trans (congrArg some (by kernel_rfl))⟩
 f8:=Tryz.func232.trans (congrArg some (by kernel_rfl))
 f10:=⟨Tryz.f248.name,by decide,Tryz.func248.trans (congrArg some (by kernel_rfl))⟩
 f11:=⟨Tryz.f249.name,by decide,Tryz.func249.trans (congrArg some (by kernel_rfl))⟩
 f12:=⟨Tryz.f250.name,by decide,Tryz.func250.trans (congrArg some (by kernel_rfl))⟩
 f13:=⟨Tryz.f251.name,by decide,Tryz.func251.trans (congrArg some (by kernel_rfl))⟩
 f14:=⟨Tryz.f252.name,by decide,Tryz.func252.trans (congrArg some (by kernel_rfl))⟩
 f15:=⟨Tryz.f253.name,by decide,Tryz.func253.trans (congrArg some (by kernel_rfl))⟩
 f16:=⟨Tryz.f254.name,by decide,Tryz.func254.trans (congrArg some (by kernel_rfl))⟩
 f17:=⟨Tryz.f255.name,by decide,Tryz.func255.trans (congrArg some (by kernel_rfl))⟩
 f18:=⟨Tryz.f256.name,by decide,Tryz.func256.trans (congrArg some (by kernel_rfl))⟩
 f19:=Tryz.func257.trans (congrArg some (by kernel_rfl))
 f20:=Tryz.func258.trans (congrArg some (by kernel_rfl))
 f30:=⟨Tryz.f271.name,by decide,Tryz.func271.trans (congrArg some (by kernel_rfl))⟩
 f31:=Tryz.func272.trans (congrArg some (by kernel_rfl))
 f32:=Tryz.func273.trans (congrArg some (by kernel_rfl))
 f33:=⟨Tryz.f274.name,by decide,Tryz.func274.trans (congrArg some (by kernel_rfl))⟩
 f34:=⟨Tryz.f275.name,by decide,Tryz.func275.trans (congrArg some (by kernel_rfl))⟩
 f35:=⟨Tryz.f237.name,by decide,Tryz.func237.trans (congrArg some (by kernel_rfl))⟩
 f40:=⟨Tryz.f279.name,by decide,Tryz.func279.trans (congrArg some (by kernel_rfl))⟩
 t0:=Tryz.underlying0
 a0:=Tryz.isAgg0
 z0:=Tryz.sizeOf0
 v0:=Tryz.zeroValue0
 t3:=Tryz.underlying3
 a3:=Tryz.isAgg3
 z3:=Tryz.sizeOf3
 v3:=Tryz.zeroValue3
 t4:=Tryz.underlying4
 a4:=Tryz.isAgg4
 z4:=Tryz.sizeOf4
 v4:=Tryz.zeroValue4
 t5:=Tryz.underlying5
 a5:=Tryz.isAgg5
 z5:=Tryz.sizeOf5
 v5:=Tryz.zeroValue5
 t9:=Tryz.underlying9
 a9:=Tryz.isAgg9
 z9:=Tryz.sizeOf9
 v9:=Tryz.zeroValue9
 t22:=Tryz.underlying22
 a22:=Tryz.isAgg22
 z22:=Tryz.sizeOf22
 v22:=Tryz.zeroValue22
 t23:=Tryz.underlying22
 a23:=Tryz.isAgg22
 z23:=Tryz.sizeOf22
 v23:=Tryz.zeroValue22
 t25:=Tryz.underlying3
 a25:=Tryz.isAgg3
 z25:=Tryz.sizeOf3
 v25:=Tryz.zeroValue3
 t32:=Tryz.underlying150
 a32:=Tryz.isAgg150
 z32:=Tryz.sizeOf150
 v32:=Tryz.zeroValue150
 t35:=Tryz.underlying259
 a35:=Tryz.isAgg259
 z35:=Tryz.sizeOf259
 v35:=Tryz.zeroValue259
 t36:=Tryz.underlying260
 a36:=Tryz.isAgg260
 z36:=Tryz.sizeOf260
 v36:=Tryz.zeroValue260
 t41:=Tryz.underlying265
 a41:=Tryz.isAgg265
 z41:=Tryz.sizeOf265
 v41:=Tryz.zeroValue265
 t44:=Tryz.underlying268
 a44:=Tryz.isAgg268
 z44:=Tryz.sizeOf268
 v44:=Tryz.zeroValue268
 t46:=Tryz.underlying270
 a46:=Tryz.isAgg270
 z46:=Tryz.sizeOf270
 v46:=Tryz.zeroValue270
 t53:=Tryz.underlying277
 a53:=Tryz.isAgg277
 z53:=Tryz.sizeOf277
 v53:=Tryz.zeroValue277
 t57:=Tryz.underlying281
 a57:=Tryz.isAgg281
 z57:=Tryz.sizeOf281
 v57:=Tryz.zeroValue281
 t63:=Tryz.underlying285
 a63:=Tryz.isAgg285
 z63:=Tryz.sizeOf285
 v63:=Tryz.zeroValue285
 t64:=Tryz.underlying242
 a64:=Tryz.isAgg242
 z64:=Tryz.sizeOf242
 v64:=Tryz.zeroValue242 }
def Tryz.lay193_ren:Go.Shelf.Ren:=⟨fun|6=>193|15=>232|14=>236|28=>257|29=>258|20=>260|21=>261|22=>262|23=>263|24=>264|25=>265|26=>266|27=>267|46=>276|47=>272|48=>273|49=>277|50=>278|57=>280|n=>n,fun|22=>178|24=>216|25=>223|3=>3|39=>150|0=>0|53=>268|55=>270|4=>4|46=>260|45=>259|50=>265|5=>5|9=>9|66=>277|70=>281|76=>285|77=>242|n=>n,fun|n=>n⟩
theorem Tryz.lay193:Go.Proofs.SlLaysF0.n6 Tryz.prog Tryz.lay193_ren:= {
 mixed:=by kernel_rfl
 f6:=⟨Tryz.f193.name,by decide,Tryz.func193.trans (congrArg some (by kernel_rfl))⟩
 f14:=⟨Tryz.f236.name,by decide,Tryz.func236.trans (congrArg some (by kernel_rfl))⟩
 f15:=Tryz.func232.trans (congrArg some (by kernel_rfl))
 f20:=⟨Tryz.f260.name,by decide,Tryz.func260.trans (congrArg some (by kernel_rfl))⟩
 f21:=⟨Tryz.f261.name,by decide,Tryz.func261.trans (congrArg some (by kernel_rfl))⟩
 f22:=⟨Tryz.f262.name,by decide,Tryz.func262.trans (congrArg some (by kernel_rfl))⟩
 f23:=⟨Tryz.f263.name,by decide,Tryz.func263.trans (congrArg some (by kernel_rfl))⟩
 f24:=⟨Tryz.f264.name,by decide,Tryz.func264.trans (congrArg some (by kernel_rfl))⟩
 f25:=⟨Tryz.f265.name,by decide,Tryz.func265.trans (congrArg some (by kernel_rfl))⟩
 f26:=⟨Tryz.f266.name,by decide,Tryz.func266.trans (congrArg some (by kernel_rfl))⟩
 f27:=⟨Tryz.f267.name,by decide,Tryz.func267.trans (congrArg some (by kernel_rfl))⟩
 f28:=Tryz.func257.trans (congrArg some (by kernel_rfl))
 f29:=Tryz.func258.trans (congrArg some (by kernel_rfl))
 f46:=⟨Tryz.f276.name,by decide,Tryz.func276.trans (congrArg some (by kernel_rfl))⟩
 f47:=Tryz.func272.trans (congrArg some (by kernel_rfl))
 f48:=Tryz.func273.trans (congrArg some (by kernel_rfl))
 f49:=⟨Tryz.f277.name,by decide,Tryz.func277.trans (congrArg some (by kernel_rfl))⟩
 f50:=⟨Tryz.f278.name,by decide,Tryz.func278.trans (congrArg some (by kernel_rfl))⟩
 f57:=⟨Tryz.f280.name,by decide,Tryz.func280.trans (congrArg some (by kernel_rfl))⟩
 t0:=Tryz.underlying0
 a0:=Tryz.isAgg0
 z0:=Tryz.sizeOf0
 v0:=Tryz.zeroValue0
 t3:=Tryz.underlying3
 a3:=Tryz.isAgg3
 z3:=Tryz.sizeOf3
 v3:=Tryz.zeroValue3
 t4:=Tryz.underlying4
 a4:=Tryz.isAgg4
 z4:=Tryz.sizeOf4
 v4:=Tryz.zeroValue4
 t5:=Tryz.underlying5
 a5:=Tryz.isAgg5
 z5:=Tryz.sizeOf5
 v5:=Tryz.zeroValue5
 t9:=Tryz.underlying9
 a9:=Tryz.isAgg9
 z9:=Tryz.sizeOf9
 v9:=Tryz.zeroValue9
 t22:=Tryz.underlying178
 a22:=Tryz.isAgg178
 z22:=Tryz.sizeOf178
 v22:=Tryz.zeroValue178
 t25:=Tryz.underlying223
 a25:=Tryz.isAgg223
 z25:=Tryz.sizeOf223
 v25:=Tryz.zeroValue223
 t39:=Tryz.underlying150
 a39:=Tryz.isAgg150
 z39:=Tryz.sizeOf150
 v39:=Tryz.zeroValue150
 t45:=Tryz.underlying259
 a45:=Tryz.isAgg259
 z45:=Tryz.sizeOf259
 v45:=Tryz.zeroValue259
 t46:=Tryz.underlying260
 a46:=Tryz.isAgg260
 z46:=Tryz.sizeOf260
 v46:=Tryz.zeroValue260
 t50:=Tryz.underlying265
 a50:=Tryz.isAgg265
 z50:=Tryz.sizeOf265
 v50:=Tryz.zeroValue265
 t53:=Tryz.underlying268
 a53:=Tryz.isAgg268
 z53:=Tryz.sizeOf268
 v53:=Tryz.zeroValue268
 t55:=Tryz.underlying270
 a55:=Tryz.isAgg270
 z55:=Tryz.sizeOf270
 v55:=Tryz.zeroValue270
 t66:=Tryz.underlying277
 a66:=Tryz.isAgg277
 z66:=Tryz.sizeOf277
 v66:=Tryz.zeroValue277
 t70:=Tryz.underlying281
 a70:=Tryz.isAgg281
 z70:=Tryz.sizeOf281
 v70:=Tryz.zeroValue281
 t76:=Tryz.underlying285
 a76:=Tryz.isAgg285
 z76:=Tryz.sizeOf285
 v76:=Tryz.zeroValue285
 t77:=Tryz.underlying242
 a77:=Tryz.isAgg242
 z77:=Tryz.sizeOf242
 v77:=Tryz.zeroValue242 }
def Tryz.lay233_ren:Go.Shelf.Ren:=⟨fun|4=>233|n=>n,fun|22=>178|25=>216|3=>3|4=>4|9=>9|20=>20|0=>0|2=>3|n=>n,fun|n=>n⟩
theorem Tryz.lay233:Go.Proofs.Lays8.n4 Tryz.prog Tryz.lay233_ren:= {
 mixed:=by kernel_rfl
 f4:=⟨Tryz.f233.name,by decide,Tryz.func233.trans (congrArg some (by kernel_rfl))⟩
 t0:=Tryz.underlying0
 a0:=Tryz.isAgg0
 z0:=Tryz.sizeOf0
 v0:=Tryz.zeroValue0
 t3:=Tryz.underlying3
 a3:=Tryz.isAgg3
 z3:=Tryz.sizeOf3
 v3:=Tryz.zeroValue3
 t4:=Tryz.underlying4
 a4:=Tryz.isAgg4
 z4:=Tryz.sizeOf4
 v4:=Tryz.zeroValue4
 t9:=Tryz.underlying9
 a9:=Tryz.isAgg9
 z9:=Tryz.sizeOf9
 v9:=Tryz.zeroValue9
 t20:=Tryz.underlying20
 a20:=Tryz.isAgg20
 z20:=Tryz.sizeOf20
 v20:=Tryz.zeroValue20
 t22:=Tryz.underlying178
 a22:=Tryz.isAgg178
 z22:=Tryz.sizeOf178
 v22:=Tryz.zeroValue178 }
def Tryz.lay152_ren:Go.Shelf.Ren:=⟨fun|4=>152|n=>n,fun|22=>30|25=>85|3=>3|4=>4|9=>9|20=>20|0=>0|n=>n,fun|n=>n⟩
theorem Tryz.lay152:Go.Proofs.Lays8.n4 Tryz.prog Tryz.lay152_ren:= {
 mixed:=by kernel_rfl
 f4:=⟨Tryz.f152.name,by decide,Tryz.func152.trans (congrArg some (by kernel_rfl))⟩
 t0:=Tryz.underlying0
 a0:=Tryz.isAgg0
 z0:=Tryz.sizeOf0
 v0:=Tryz.zeroValue0
 t3:=Tryz.underlying3
 a3:=Tryz.isAgg3
 z3:=Tryz.sizeOf3
 v3:=Tryz.zeroValue3
 t4:=Tryz.underlying4
 a4:=Tryz.isAgg4
 z4:=Tryz.sizeOf4
 v4:=Tryz.zeroValue4
 t9:=Tryz.underlying9
 a9:=Tryz.isAgg9
 z9:=Tryz.sizeOf9
 v9:=Tryz.zeroValue9
 t20:=Tryz.underlying20
 a20:=Tryz.isAgg20
 z20:=Tryz.sizeOf20
 v20:=Tryz.zeroValue20
 t22:=Tryz.underlying30
 a22:=Tryz.isAgg30
 z22:=Tryz.sizeOf30
 v22:=Tryz.zeroValue30 }
end Go.Proofs
end
section
namespace Go.Ab
open Go.Proofs
theorem Y2p{x r:List Int}(h:Z7N x=some r):K7 Tryz.prog 189 [.v (.c (.own 0))] [(0,AO (α:=Int) x)] .any [(0,AO (α:=Int) r)]:=Y5E Tryz.lay189 h
theorem Y6M{x:List Span}{q:Span->Span->Option Int}{r:List Span}(h:Y0W x q=some r):K7 Tryz.prog 193 [.v (.c (.own 0)),.v (.c (.sem (Q0B Tryz.prog (Z4c q))))] [(0,AO (α:=Span) x)] .any [(0,AO (α:=Span) r)]:=
 Y5F Q0k Tryz.lay193 (fun _=>rfl) (te:=⟨.struct [(0,3),(1,3)],2,16,[.d (.int .i64 0),.d (.int .i64 0)]⟩) (by kernel_rfl) rfl rfl Z4c (fun q x y z a=>⟨x,y,z,a,rfl,rfl⟩) h
theorem Y7p{n:Int}{r:List Span}(h:Y1g n=some r):K7 Tryz.prog 233 [.v (.c (.fl 0 fun _=>[])),vi n] [] (.v (.c (.own 100))) [(100,AO (α:=Span) r)]:=
 Y1f Q0k Tryz.lay233 (te:=⟨.struct [(0,3),(1,3)],2,16,[.d (.int .i64 0),.d (.int .i64 0)]⟩) (by kernel_rfl) rfl (by decide) (by decide) rfl h
theorem Y1G{n:Int}{r:List Rect}(h:Y1g n=some r):K7 Tryz.prog 152 [.v (.c (.fl 0 fun _=>[])),vi n] [] (.v (.c (.own 100))) [(100,AO (α:=Rect) r)]:=
 Y1f Q0k Tryz.lay152 (te:=⟨.struct [(0,3),(1,3),(2,3),(3,3)],4,32,[.d (.int .i64 0),.d (.int .i64 0),.d (.int .i64 0),.d (.int .i64 0)]⟩) (by kernel_rfl) rfl (by decide) (by decide) rfl h
end Go.Ab
end
