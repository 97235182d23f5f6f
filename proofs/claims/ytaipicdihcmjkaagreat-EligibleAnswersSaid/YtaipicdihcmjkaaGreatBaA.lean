/- The types of the program, its sorts and their contracts. -/
import Derived.Test.YtaipicdihcmjkaaGreatPuB
import Derived.Test.YtaipicdihcmjkaaGreatProg
import Derived.Shelf.SlGeneric
import Derived.Shelf.SortM.Plain
import Derived.Shelf.SortM.SortNone
import Derived.Shelf.SlSortCmp.WholeK
import Derived.Shelf.SlSortCmp.NoneTotal
import Derived.Shelf.Spec.SlicesGrow
import Derived.Ground.SlgmProg
import Derived.Ground.SlsfProg
import Derived.Ground.Names8Prog
import Derived.Test.YtaipicdihcmjkaaGreatAbC
set_option linter.unusedVariables false
set_option linter.unusedSimpArgs false
section
namespace Go.Ab
open Go.Proofs
set_option maxRecDepth 100000
def TT:List (Nat×TI):=[
 (3,⟨.int .i64,1,8,[.d (.int .i64 0)]⟩),
 (4,⟨.bool,1,1,[.d (.bool false)]⟩),
 (5,⟨.int .u8,1,1,[.d (.int .u8 0)]⟩),
 (9,⟨.str,1,16,[.d (.str ByteArray.empty)]⟩),
 (22,⟨.slice 3,1,24,[.fl 0 fun _=>[]]⟩),
 (23,⟨.other,1,8,[.d .any]⟩),
 (25,⟨.slice 68,1,24,[.fl 0 fun _=>[]]⟩),
 (27,⟨.slice 45,1,24,[.fl 0 fun _=>[]]⟩),
 (28,⟨.slice 42,1,24,[.fl 0 fun _=>[]]⟩),
 (32,⟨.slice 51,1,24,[.fl 0 fun _=>[]]⟩),
 (34,⟨.slice 151,1,24,[.fl 0 fun _=>[]]⟩),
 (35,⟨.slice 105,1,24,[.fl 0 fun _=>[]]⟩),
 (37,⟨.struct [(0,3),(1,25),(2,34),(3,35),(4,3),(5,3)],6,96,[.d (.int .i64 0),.fl 0 fun _=>[],.fl 0 fun _=>[],.fl 0 fun _=>[],.d (.int .i64 0),.d (.int .i64 0)]⟩),
 (40,⟨.slice 70,1,24,[.fl 0 fun _=>[]]⟩),
 (42,⟨.struct [(0,40)],1,24,[.fl 0 fun _=>[]]⟩),
 (45,⟨.struct [(0,3),(1,42),(2,3),(3,3)],4,48,[.d (.int .i64 0),.fl 0 fun _=>[],.d (.int .i64 0),.d (.int .i64 0)]⟩),
 (46,⟨.slice 48,1,24,[.fl 0 fun _=>[]]⟩),
 (48,⟨.struct [(0,3),(1,3),(2,3),(3,46)],4,48,[.d (.int .i64 0),.d (.int .i64 0),.d (.int .i64 0),.fl 0 fun _=>[]]⟩),
 (49,⟨.slice 76,1,24,[.fl 0 fun _=>[]]⟩),
 (51,⟨.struct [(0,3),(1,9),(2,48),(6,49),(7,3),(8,3),(9,4)],10,120,[.d (.int .i64 0),.d (.str ByteArray.empty),.d (.int .i64 0),.d (.int .i64 0),.d (.int .i64 0),.fl 0 fun _=>[],.fl 0 fun _=>[],.d (.int .i64 0),.d (.int .i64 0),.d (.bool false)]⟩),
 (52,⟨.int .i64,1,8,[.d (.int .i64 0)]⟩),
 (57,⟨.struct [(0,42),(1,42),(2,42)],3,72,[.fl 0 fun _=>[],.fl 0 fun _=>[],.fl 0 fun _=>[]]⟩),
 (65,⟨.struct [(0,22),(1,3)],2,32,[.fl 0 fun _=>[],.d (.int .i64 0)]⟩),
 (66,⟨.slice 9,1,24,[.fl 0 fun _=>[]]⟩),
 (68,⟨.struct [(0,9),(1,3),(2,3)],3,32,[.d (.str ByteArray.empty),.d (.int .i64 0),.d (.int .i64 0)]⟩),
 (70,⟨.struct [(0,3),(1,3),(2,3),(3,3)],4,32,[.d (.int .i64 0),.d (.int .i64 0),.d (.int .i64 0),.d (.int .i64 0)]⟩),
 (74,⟨.other,1,8,[.d .any]⟩),
 (76,⟨.struct [(0,3),(1,3)],2,16,[.d (.int .i64 0),.d (.int .i64 0)]⟩),
 (83,⟨.array 3 40,3,72,[.fl 0 fun _=>[],.fl 0 fun _=>[],.fl 0 fun _=>[]]⟩),
 (89,⟨.struct [(0,40),(1,40),(2,40)],3,72,[.fl 0 fun _=>[],.fl 0 fun _=>[],.fl 0 fun _=>[]]⟩),
 (102,⟨.other,1,8,[.d .any]⟩),
 (105,⟨.struct [(0,3),(1,3),(2,3),(3,3),(4,42)],5,56,[.d (.int .i64 0),.d (.int .i64 0),.d (.int .i64 0),.d (.int .i64 0),.fl 0 fun _=>[]]⟩),
 (108,⟨.slice 40,1,24,[.fl 0 fun _=>[]]⟩),
 (113,⟨.slice 5,1,24,[.fl 0 fun _=>[]]⟩),
 (120,⟨.array 3 42,3,72,[.fl 0 fun _=>[],.fl 0 fun _=>[],.fl 0 fun _=>[]]⟩),
 (122,⟨.other,1,8,[.d .any]⟩),
 (124,⟨.other,1,8,[.d .any]⟩),
 (126,⟨.other,1,8,[.d .any]⟩),
 (129,⟨.struct [(0,3),(1,25),(2,34),(3,35),(4,3)],5,88,[.d (.int .i64 0),.fl 0 fun _=>[],.fl 0 fun _=>[],.fl 0 fun _=>[],.d (.int .i64 0)]⟩),
 (131,⟨.struct [(0,129),(5,45),(9,40)],10,160,[.d (.int .i64 0),.fl 0 fun _=>[],.fl 0 fun _=>[],.fl 0 fun _=>[],.d (.int .i64 0),.d (.int .i64 0),.fl 0 fun _=>[],.d (.int .i64 0),.d (.int .i64 0),.fl 0 fun _=>[]]⟩),
 (134,⟨.struct [(0,40),(1,40),(2,40)],3,72,[.fl 0 fun _=>[],.fl 0 fun _=>[],.fl 0 fun _=>[]]⟩),
 (144,⟨.slice 182,1,24,[.fl 0 fun _=>[]]⟩),
 (147,⟨.other,1,8,[.d .any]⟩),
 (151,⟨.struct [(0,3),(1,3),(2,42)],3,40,[.d (.int .i64 0),.d (.int .i64 0),.fl 0 fun _=>[]]⟩),
 (160,⟨.struct [(0,40),(1,40),(2,40)],3,72,[.fl 0 fun _=>[],.fl 0 fun _=>[],.fl 0 fun _=>[]]⟩),
 (162,⟨.struct [(0,45),(4,3),(5,25),(6,34),(7,35),(8,3)],9,136,[.d (.int .i64 0),.fl 0 fun _=>[],.d (.int .i64 0),.d (.int .i64 0),.d (.int .i64 0),.fl 0 fun _=>[],.fl 0 fun _=>[],.fl 0 fun _=>[],.d (.int .i64 0)]⟩),
 (167,⟨.other,1,8,[.d .any]⟩),
 (169,⟨.slice 134,1,24,[.fl 0 fun _=>[]]⟩),
 (177,⟨.slice 179,1,24,[.fl 0 fun _=>[]]⟩),
 (179,⟨.struct [(0,3),(1,3),(2,144)],3,40,[.d (.int .i64 0),.d (.int .i64 0),.fl 0 fun _=>[]]⟩),
 (182,⟨.struct [(0,3),(1,3)],2,16,[.d (.int .i64 0),.d (.int .i64 0)]⟩),
 (189,⟨.other,1,8,[.d .any]⟩),
 (191,⟨.other,1,8,[.d .any]⟩),
 (203,⟨.other,1,8,[.d .any]⟩),
 (208,⟨.other,1,8,[.d .any]⟩),
 (225,⟨.int .u64,1,8,[.d (.int .u64 0)]⟩),
 (226,⟨.slice 144,1,24,[.fl 0 fun _=>[]]⟩),
 (229,⟨.other,1,8,[.d .any]⟩),
 (248,⟨.int .u64,1,8,[.d (.int .u64 0)]⟩)]
theorem Z3h:TT.map (fun p=>TY Tryz.prog p.1)=TT.map (fun p=>some p.2):=by kernel_rfl
theorem ZN:z7 Tryz.prog (Jv TT):=Q4Y Z3h
theorem Q8y:Tryz.prog.follows .mixedOrders=true:=by kernel_rfl
theorem Q2g:EqT Tryz.prog 70:=⟨by kernel_rfl,by kernel_rfl,by kernel_rfl⟩
theorem Z1A:EqT Tryz.prog 182:=⟨by kernel_rfl,by kernel_rfl,by kernel_rfl⟩
theorem KO:VR (Jv TT) 22 ⟨.int .i64,1,8,[.d (.int .i64 0)]⟩:=⟨⟨.slice 3,1,24,[.fl 0 fun _=>[]]⟩,3,by kernel_rfl,by kernel_rfl,by kernel_rfl⟩
theorem jg:VR (Jv TT) 32 ⟨.struct [(0,3),(1,9),(2,48),(6,49),(7,3),(8,3),(9,4)],10,120,[.d (.int .i64 0),.d (.str ByteArray.empty),.d (.int .i64 0),.d (.int .i64 0),.d (.int .i64 0),.fl 0 fun _=>[],.fl 0 fun _=>[],.d (.int .i64 0),.d (.int .i64 0),.d (.bool false)]⟩:=⟨⟨.slice 51,1,24,[.fl 0 fun _=>[]]⟩,51,by kernel_rfl,by kernel_rfl,by kernel_rfl⟩
theorem qn:VR (Jv TT) 34 ⟨.struct [(0,3),(1,3),(2,42)],3,40,[.d (.int .i64 0),.d (.int .i64 0),.fl 0 fun _=>[]]⟩:=⟨⟨.slice 151,1,24,[.fl 0 fun _=>[]]⟩,151,by kernel_rfl,by kernel_rfl,by kernel_rfl⟩
theorem jf:VR (Jv TT) 35 ⟨.struct [(0,3),(1,3),(2,3),(3,3),(4,42)],5,56,[.d (.int .i64 0),.d (.int .i64 0),.d (.int .i64 0),.d (.int .i64 0),.fl 0 fun _=>[]]⟩:=⟨⟨.slice 105,1,24,[.fl 0 fun _=>[]]⟩,105,by kernel_rfl,by kernel_rfl,by kernel_rfl⟩
theorem qm:VR (Jv TT) 40 ⟨.struct [(0,3),(1,3),(2,3),(3,3)],4,32,[.d (.int .i64 0),.d (.int .i64 0),.d (.int .i64 0),.d (.int .i64 0)]⟩:=⟨⟨.slice 70,1,24,[.fl 0 fun _=>[]]⟩,70,by kernel_rfl,by kernel_rfl,by kernel_rfl⟩
end Go.Ab
end
section
namespace Go.Proofs
open Go.Shelf
def Z3d:Go.Shelf.Ren:=⟨fun|5=>139|8=>190|7=>189|19=>218|20=>219|10=>209|11=>210|12=>211|13=>212|14=>213|15=>214|16=>215|17=>216|18=>217|30=>232|31=>233|32=>234|33=>235|34=>236|35=>195|40=>240|n=>n,fun|23=>22|25=>3|3=>3|32=>225|22=>22|0=>0|44=>246|46=>248|4=>4|36=>238|35=>237|41=>243|5=>5|9=>9|53=>255|57=>259|63=>263|64=>218|n=>n,fun|n=>n⟩
theorem Z3e:Go.Proofs.SlLaysM.n5 Tryz.prog Z3d:= {
 mixed:=by kernel_rfl
 f5:=⟨Tryz.f139.name,by decide,Tryz.func139.trans (congrArg some (by kernel_rfl))⟩
 f7:=⟨Tryz.f189.name,by decide,Tryz.func189.trans (congrArg some (by kernel_rfl))⟩
 f8:=Tryz.func190.trans (congrArg some (by kernel_rfl))
 f10:=⟨Tryz.f209.name,by decide,Tryz.func209.trans (congrArg some (by kernel_rfl))⟩
 f11:=⟨Tryz.f210.name,by decide,Tryz.func210.trans (congrArg some (by kernel_rfl))⟩
 f12:=⟨Tryz.f211.name,by decide,Tryz.func211.trans (congrArg some (by kernel_rfl))⟩
 f13:=⟨Tryz.f212.name,by decide,Tryz.func212.trans (congrArg some (by kernel_rfl))⟩
 f14:=⟨Tryz.f213.name,by decide,Tryz.func213.trans (congrArg some (by kernel_rfl))⟩
 f15:=⟨Tryz.f214.name,by decide,Tryz.func214.trans (congrArg some (by kernel_rfl))⟩
 f16:=⟨Tryz.f215.name,by decide,Tryz.func215.trans (congrArg some (by kernel_rfl))⟩
 f17:=⟨Tryz.f216.name,by decide,Tryz.func216.trans (congrArg some (by kernel_rfl))⟩
 f18:=⟨Tryz.f217.name,by decide,Tryz.func217.trans (congrArg some (by kernel_rfl))⟩
 f19:=Tryz.func218.trans (congrArg some (by kernel_rfl))
 f20:=Tryz.func219.trans (congrArg some (by kernel_rfl))
 f30:=⟨Tryz.f232.name,by decide,Tryz.func232.trans (congrArg some (by kernel_rfl))⟩
 f31:=Tryz.func233.trans (congrArg some (by kernel_rfl))
 f32:=Tryz.func234.trans (congrArg some (by kernel_rfl))
 f33:=⟨Tryz.f235.name,by decide,Tryz.func235.trans (congrArg some (by kernel_rfl))⟩
 f34:=⟨Tryz.f236.name,by decide,Tryz.func236.trans (congrArg some (by kernel_rfl))⟩
 f35:=⟨Tryz.f195.name,by decide,Tryz.func195.trans (congrArg some (by kernel_rfl))⟩
 f40:=⟨Tryz.f240.name,by decide,Tryz.func240.trans (congrArg some (by kernel_rfl))⟩
 t0:=Tryz.underlying0
 a0:=Tryz.isAgg0
 z0:=Tryz.sizeOf0
 v0:=Tryz.zeroValue0
 t3:=Tryz.underlying3
 a3:=Tryz.isAgg3
 z3:=Tryz.sizeOf3
 v3:=Tryz.zeroValue3
 t4:=Tryz.underlying4
 a4:=Tryz.isAgg4
 z4:=Tryz.sizeOf4
 v4:=Tryz.zeroValue4
 t5:=Tryz.underlying5
 a5:=Tryz.isAgg5
 z5:=Tryz.sizeOf5
 v5:=Tryz.zeroValue5
 t9:=Tryz.underlying9
 a9:=Tryz.isAgg9
 z9:=Tryz.sizeOf9
 v9:=Tryz.zeroValue9
 t22:=Tryz.underlying22
 a22:=Tryz.isAgg22
 z22:=Tryz.sizeOf22
 v22:=Tryz.zeroValue22
 t23:=Tryz.underlying22
 a23:=Tryz.isAgg22
 z23:=Tryz.sizeOf22
 v23:=Tryz.zeroValue22
 t25:=Tryz.underlying3
 a25:=Tryz.isAgg3
 z25:=Tryz.sizeOf3
 v25:=Tryz.zeroValue3
 t32:=Tryz.underlying225
 a32:=Tryz.isAgg225
 z32:=Tryz.sizeOf225
 v32:=Tryz.zeroValue225
 t35:=Tryz.underlying237
 a35:=Tryz.isAgg237
 z35:=Tryz.sizeOf237
 v35:=Tryz.zeroValue237
 t36:=Tryz.underlying238
 a36:=Tryz.isAgg238
 z36:=Tryz.sizeOf238
 v36:=Tryz.zeroValue238
 t41:=Tryz.underlying243
 a41:=Tryz.isAgg243
 z41:=Tryz.sizeOf243
 v41:=Tryz.zeroValue243
 t44:=Tryz.underlying246
 a44:=Tryz.isAgg246
 z44:=Tryz.sizeOf246
 v44:=Tryz.zeroValue246
 t46:=Tryz.underlying248
 a46:=Tryz.isAgg248
 z46:=Tryz.sizeOf248
 v46:=Tryz.zeroValue248
 t53:=Tryz.underlying255
 a53:=Tryz.isAgg255
 z53:=Tryz.sizeOf255
 v53:=Tryz.zeroValue255
 t57:=Tryz.underlying259
 a57:=Tryz.isAgg259
 z57:=Tryz.sizeOf259
 v57:=Tryz.zeroValue259
 t63:=Tryz.underlying263
 a63:=Tryz.isAgg263
 z63:=Tryz.sizeOf263
 v63:=Tryz.zeroValue263
 t64:=Tryz.underlying218
 a64:=Tryz.isAgg218
 z64:=Tryz.sizeOf218
 v64:=Tryz.zeroValue218 }
def Z3b:Go.Shelf.Ren:=⟨fun|6=>143|15=>190|14=>194|28=>218|29=>219|20=>221|21=>222|22=>223|23=>224|24=>225|25=>226|26=>227|27=>228|46=>237|47=>233|48=>234|49=>238|50=>239|57=>241|n=>n,fun|22=>144|24=>182|25=>189|3=>3|39=>225|0=>0|53=>246|55=>248|4=>4|46=>238|45=>237|50=>243|5=>5|9=>9|66=>255|70=>259|76=>263|77=>218|n=>n,fun|n=>n⟩
theorem Z3c:Go.Proofs.SlLaysF0.n6 Tryz.prog Z3b:= {
 mixed:=by kernel_rfl
 f6:=⟨Tryz.f143.name,by decide,Tryz.func143.trans (congrArg some (by kernel_rfl))⟩
 f14:=⟨Tryz.f194.name,by decide,Tryz.func194.trans (congrArg some (by kernel_rfl))⟩
 f15:=Tryz.func190.trans (congrArg some (by kernel_rfl))
 f20:=⟨Tryz.f221.name,by decide,Tryz.func221.trans (congrArg some (by kernel_rfl))⟩
 f21:=⟨Tryz.f222.name,by decide,Tryz.func222.trans (congrArg some (by kernel_rfl))⟩
 f22:=⟨Tryz.f223.name,by decide,Tryz.func223.trans (congrArg some (by kernel_rfl))⟩
 f23:=⟨Tryz.f224.name,by decide,Tryz.func224.trans (congrArg some (by kernel_rfl))⟩
 f24:=⟨Tryz.f225.name,by decide,Tryz.func225.trans (congrArg some (by kernel_rfl))⟩
 f25:=⟨Tryz.f226.name,by decide,Tryz.func226.trans (congrArg some (by kernel_rfl))⟩
 f26:=⟨Tryz.f227.name,by decide,Tryz.func227.trans (congrArg some (by kernel_rfl))⟩
 f27:=⟨Tryz.f228.name,by decide,Tryz.func228.trans (congrArg some (by kernel_rfl))⟩
 f28:=Tryz.func218.trans (congrArg some (by kernel_rfl))
 f29:=Tryz.func219.trans (congrArg some (by kernel_rfl))
 f46:=⟨Tryz.f237.name,by decide,Tryz.func237.trans (congrArg some (by kernel_rfl))⟩
 f47:=Tryz.func233.trans (congrArg some (by kernel_rfl))
 f48:=Tryz.func234.trans (congrArg some (by kernel_rfl))
 f49:=⟨Tryz.f238.name,by decide,Tryz.func238.trans (congrArg some (by kernel_rfl))⟩
 f50:=⟨Tryz.f239.name,by decide,Tryz.func239.trans (congrArg some (by kernel_rfl))⟩
 f57:=⟨Tryz.f241.name,by decide,Tryz.func241.trans (congrArg some (by kernel_rfl))⟩
 t0:=Tryz.underlying0
 a0:=Tryz.isAgg0
 z0:=Tryz.sizeOf0
 v0:=Tryz.zeroValue0
 t3:=Tryz.underlying3
 a3:=Tryz.isAgg3
 z3:=Tryz.sizeOf3
 v3:=Tryz.zeroValue3
 t4:=Tryz.underlying4
 a4:=Tryz.isAgg4
 z4:=Tryz.sizeOf4
 v4:=Tryz.zeroValue4
 t5:=Tryz.underlying5
 a5:=Tryz.isAgg5
 z5:=Tryz.sizeOf5
 v5:=Tryz.zeroValue5
 t9:=Tryz.underlying9
 a9:=Tryz.isAgg9
 z9:=Tryz.sizeOf9
 v9:=Tryz.zeroValue9
 t22:=Tryz.underlying144
 a22:=Tryz.isAgg144
 z22:=Tryz.sizeOf144
 v22:=Tryz.zeroValue144
 t25:=Tryz.underlying189
 a25:=Tryz.isAgg189
 z25:=Tryz.sizeOf189
 v25:=Tryz.zeroValue189
 t39:=Tryz.underlying225
 a39:=Tryz.isAgg225
 z39:=Tryz.sizeOf225
 v39:=Tryz.zeroValue225
 t45:=Tryz.underlying237
 a45:=Tryz.isAgg237
 z45:=Tryz.sizeOf237
 v45:=Tryz.zeroValue237
 t46:=Tryz.underlying238
 a46:=Tryz.isAgg238
 z46:=Tryz.sizeOf238
 v46:=Tryz.zeroValue238
 t50:=Tryz.underlying243
 a50:=Tryz.isAgg243
 z50:=Tryz.sizeOf243
 v50:=Tryz.zeroValue243
 t53:=Tryz.underlying246
 a53:=Tryz.isAgg246
 z53:=Tryz.sizeOf246
 v53:=Tryz.zeroValue246
 t55:=Tryz.underlying248
 a55:=Tryz.isAgg248
 z55:=Tryz.sizeOf248
 v55:=Tryz.zeroValue248
 t66:=Tryz.underlying255
 a66:=Tryz.isAgg255
 z66:=Tryz.sizeOf255
 v66:=Tryz.zeroValue255
 t70:=Tryz.underlying259
 a70:=Tryz.isAgg259
 z70:=Tryz.sizeOf259
 v70:=Tryz.zeroValue259
 t76:=Tryz.underlying263
 a76:=Tryz.isAgg263
 z76:=Tryz.sizeOf263
 v76:=Tryz.zeroValue263
 t77:=Tryz.underlying218
 a77:=Tryz.isAgg218
 z77:=Tryz.sizeOf218
 v77:=Tryz.zeroValue218 }
def Z2Z:Go.Shelf.Ren:=⟨fun|4=>191|n=>n,fun|22=>144|25=>182|3=>3|4=>4|9=>9|20=>20|0=>0|2=>3|n=>n,fun|n=>n⟩
theorem Z3a:Go.Proofs.Lays8.n4 Tryz.prog Z2Z:= {
 mixed:=by kernel_rfl
 f4:=⟨Tryz.f191.name,by decide,Tryz.func191.trans (congrArg some (by kernel_rfl))⟩
 t0:=Tryz.underlying0
 a0:=Tryz.isAgg0
 z0:=Tryz.sizeOf0
 v0:=Tryz.zeroValue0
 t3:=Tryz.underlying3
 a3:=Tryz.isAgg3
 z3:=Tryz.sizeOf3
 v3:=Tryz.zeroValue3
 t4:=Tryz.underlying4
 a4:=Tryz.isAgg4
 z4:=Tryz.sizeOf4
 v4:=Tryz.zeroValue4
 t9:=Tryz.underlying9
 a9:=Tryz.isAgg9
 z9:=Tryz.sizeOf9
 v9:=Tryz.zeroValue9
 t20:=Tryz.underlying20
 a20:=Tryz.isAgg20
 z20:=Tryz.sizeOf20
 v20:=Tryz.zeroValue20
 t22:=Tryz.underlying144
 a22:=Tryz.isAgg144
 z22:=Tryz.sizeOf144
 v22:=Tryz.zeroValue144 }
def Z3f:Go.Shelf.Ren:=⟨fun|4=>100|n=>n,fun|22=>40|25=>70|3=>3|4=>4|9=>9|20=>20|0=>0|n=>n,fun|n=>n⟩
theorem Z3g:Go.Proofs.Lays8.n4 Tryz.prog Z3f:= {
 mixed:=by kernel_rfl
 f4:=⟨Tryz.f100.name,by decide,Tryz.func100.trans (congrArg some (by kernel_rfl))⟩
 t0:=Tryz.underlying0
 a0:=Tryz.isAgg0
 z0:=Tryz.sizeOf0
 v0:=Tryz.zeroValue0
 t3:=Tryz.underlying3
 a3:=Tryz.isAgg3
 z3:=Tryz.sizeOf3
 v3:=Tryz.zeroValue3
 t4:=Tryz.underlying4
 a4:=Tryz.isAgg4
 z4:=Tryz.sizeOf4
 v4:=Tryz.zeroValue4
 t9:=Tryz.underlying9
 a9:=Tryz.isAgg9
 z9:=Tryz.sizeOf9
 v9:=Tryz.zeroValue9
 t20:=Tryz.underlying20
 a20:=Tryz.isAgg20
 z20:=Tryz.sizeOf20
 v20:=Tryz.zeroValue20
 t22:=Tryz.underlying40
 a22:=Tryz.isAgg40
 z22:=Tryz.sizeOf40
 v22:=Tryz.zeroValue40 }
end Go.Proofs
end
section
namespace Go.Ab
open Go.Proofs
theorem kX{x r:List Int}(h:Uh x=some r):K8 Tryz.prog 139 [.v (.c (.own 0))] [(0,AO (α:=Int) x)] .any [(0,AO (α:=Int) r)]:=Q5n Z3e h
theorem Q5o{x:List Span}{q:Span->Span->Option Int}{r:List Span}(h:Jx x q=some r):K8 Tryz.prog 143 [.v (.c (.own 0)),.v (.c (.sem (QP Tryz.prog (Q3M q))))] [(0,AO (α:=Span) x)] .any [(0,AO (α:=Span) r)]:=
 Q5r ZN Z3c (fun _=>rfl) (te:=⟨.struct [(0,3),(1,3)],2,16,[.d (.int .i64 0),.d (.int .i64 0)]⟩) (by kernel_rfl) rfl rfl Q3M (fun q x y z a=>⟨x,y,z,a,rfl,rfl⟩) h
theorem Z0F{n:Int}{r:List Span}(h:Ka n=some r):K8 Tryz.prog 191 [.v (.c (.fl 0 fun _=>[])),vi n] [] (.v (.c (.own 100))) [(100,AO (α:=Span) r)]:=
 Q1z ZN Z3a (te:=⟨.struct [(0,3),(1,3)],2,16,[.d (.int .i64 0),.d (.int .i64 0)]⟩) (by kernel_rfl) rfl (by decide) (by decide) rfl h
theorem Z0G{n:Int}{r:List Rect}(h:Ka n=some r):K8 Tryz.prog 100 [.v (.c (.fl 0 fun _=>[])),vi n] [] (.v (.c (.own 100))) [(100,AO (α:=Rect) r)]:=
 Q1z ZN Z3g (te:=⟨.struct [(0,3),(1,3),(2,3),(3,3)],4,32,[.d (.int .i64 0),.d (.int .i64 0),.d (.int .i64 0),.d (.int .i64 0)]⟩) (by kernel_rfl) rfl (by decide) (by decide) rfl h
end Go.Ab
end
