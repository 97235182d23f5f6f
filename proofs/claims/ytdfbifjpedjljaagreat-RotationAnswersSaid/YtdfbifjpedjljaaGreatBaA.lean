/- The types of the program, its sorts and their contracts. -/
import Derived.Test.YtdfbifjpedjljaaGreatPuB
import Derived.Test.YtdfbifjpedjljaaGreatProg
import Derived.Shelf.SlGeneric
import Derived.Shelf.SortM.Plain
import Derived.Shelf.SortM.SortNone
import Derived.Shelf.SlSortCmp.WholeK
import Derived.Shelf.SlSortCmp.NoneTotal
import Derived.Shelf.Spec.SlicesGrow
import Derived.Shelf.SlIterI.Nil
import Derived.Shelf.SlIterI.Sorted
import Derived.Ground.SlgmProg
import Derived.Ground.SlsfProg
import Derived.Ground.Names8Prog
import Derived.Ground.GgzProg
set_option linter.unusedVariables false
set_option linter.unusedSimpArgs false
section
namespace Go.Ab
open Go.Proofs
set_option maxRecDepth 100000
def TT:List (Nat×TI):=[
 (3,⟨.int .i64,1,8,[.d (.int .i64 0)]⟩),
 (4,⟨.bool,1,1,[.d (.bool false)]⟩),
 (5,⟨.int .u8,1,1,[.d (.int .u8 0)]⟩),
 (9,⟨.str,1,16,[.d (.str ByteArray.empty)]⟩),
 (22,⟨.slice 3,1,24,[.fl 0 fun _=>[]]⟩),
 (23,⟨.other,1,8,[.d .any]⟩),
 (25,⟨.slice 49,1,24,[.fl 0 fun _=>[]]⟩),
 (27,⟨.slice 44,1,24,[.fl 0 fun _=>[]]⟩),
 (28,⟨.array 64 3,64,512,[.d (.int .i64 0),.d (.int .i64 0),.d (.int .i64 0),.d (.int .i64 0),.d (.int .i64 0),.d (.int .i64 0),.d (.int .i64 0),.d (.int .i64 0),.d (.int .i64 0),.d (.int .i64 0),.d (.int .i64 0),.d (.int .i64 0),.d (.int .i64 0),.d (.int .i64 0),.d (.int .i64 0),.d (.int .i64 0),.d (.int .i64 0),.d (.int .i64 0),.d (.int .i64 0),.d (.int .i64 0),.d (.int .i64 0),.d (.int .i64 0),.d (.int .i64 0),.d (.int .i64 0),.d (.int .i64 0),.d (.int .i64 0),.d (.int .i64 0),.d (.int .i64 0),.d (.int .i64 0),.d (.int .i64 0),.d (.int .i64 0),.d (.int .i64 0),.d (.int .i64 0),.d (.int .i64 0),.d (.int .i64 0),.d (.int .i64 0),.d (.int .i64 0),.d (.int .i64 0),.d (.int .i64 0),.d (.int .i64 0),.d (.int .i64 0),.d (.int .i64 0),.d (.int .i64 0),.d (.int .i64 0),.d (.int .i64 0),.d (.int .i64 0),.d (.int .i64 0),.d (.int .i64 0),.d (.int .i64 0),.d (.int .i64 0),.d (.int .i64 0),.d (.int .i64 0),.d (.int .i64 0),.d (.int .i64 0),.d (.int .i64 0),.d (.int .i64 0),.d (.int .i64 0),.d (.int .i64 0),.d (.int .i64 0),.d (.int .i64 0),.d (.int .i64 0),.d (.int .i64 0),.d (.int .i64 0),.d (.int .i64 0)]⟩),
 (29,⟨.array 2 28,128,1024,[.d (.int .i64 0),.d (.int .i64 0),.d (.int .i64 0),.d (.int .i64 0),.d (.int .i64 0),.d (.int .i64 0),.d (.int .i64 0),.d (.int .i64 0),.d (.int .i64 0),.d (.int .i64 0),.d (.int .i64 0),.d (.int .i64 0),.d (.int .i64 0),.d (.int .i64 0),.d (.int .i64 0),.d (.int .i64 0),.d (.int .i64 0),.d (.int .i64 0),.d (.int .i64 0),.d (.int .i64 0),.d (.int .i64 0),.d (.int .i64 0),.d (.int .i64 0),.d (.int .i64 0),.d (.int .i64 0),.d (.int .i64 0),.d (.int .i64 0),.d (.int .i64 0),.d (.int .i64 0),.d (.int .i64 0),.d (.int .i64 0),.d (.int .i64 0),.d (.int .i64 0),.d (.int .i64 0),.d (.int .i64 0),.d (.int .i64 0),.d (.int .i64 0),.d (.int .i64 0),.d (.int .i64 0),.d (.int .i64 0),.d (.int .i64 0),.d (.int .i64 0),.d (.int .i64 0),.d (.int .i64 0),.d (.int .i64 0),.d (.int .i64 0),.d (.int .i64 0),.d (.int .i64 0),.d (.int .i64 0),.d (.int .i64 0),.d (.int .i64 0),.d (.int .i64 0),.d (.int .i64 0),.d (.int .i64 0),.d (.int .i64 0),.d (.int .i64 0),.d (.int .i64 0),.d (.int .i64 0),.d (.int .i64 0),.d (.int .i64 0),.d (.int .i64 0),.d (.int .i64 0),.d (.int .i64 0),.d (.int .i64 0),.d (.int .i64 0),.d (.int .i64 0),.d (.int .i64 0),.d (.int .i64 0),.d (.int .i64 0),.d (.int .i64 0),.d (.int .i64 0),.d (.int .i64 0),.d (.int .i64 0),.d (.int .i64 0),.d (.int .i64 0),.d (.int .i64 0),.d (.int .i64 0),.d (.int .i64 0),.d (.int .i64 0),.d (.int .i64 0),.d (.int .i64 0),.d (.int .i64 0),.d (.int .i64 0),.d (.int .i64 0),.d (.int .i64 0),.d (.int .i64 0),.d (.int .i64 0),.d (.int .i64 0),.d (.int .i64 0),.d (.int .i64 0),.d (.int .i64 0),.d (.int .i64 0),.d (.int .i64 0),.d (.int .i64 0),.d (.int .i64 0),.d (.int .i64 0),.d (.int .i64 0),.d (.int .i64 0),.d (.int .i64 0),.d (.int .i64 0),.d (.int .i64 0),.d (.int .i64 0),.d (.int .i64 0),.d (.int .i64 0),.d (.int .i64 0),.d (.int .i64 0),.d (.int .i64 0),.d (.int .i64 0),.d (.int .i64 0),.d (.int .i64 0),.d (.int .i64 0),.d (.int .i64 0),.d (.int .i64 0),.d (.int .i64 0),.d (.int .i64 0),.d (.int .i64 0),.d (.int .i64 0),.d (.int .i64 0),.d (.int .i64 0),.d (.int .i64 0),.d (.int .i64 0),.d (.int .i64 0),.d (.int .i64 0),.d (.int .i64 0),.d (.int .i64 0),.d (.int .i64 0),.d (.int .i64 0),.d (.int .i64 0)]⟩),
 (31,⟨.slice 103,1,24,[.fl 0 fun _=>[]]⟩),
 (33,⟨.struct [(0,31)],1,24,[.fl 0 fun _=>[]]⟩),
 (35,⟨.int .i64,1,8,[.d (.int .i64 0)]⟩),
 (44,⟨.struct [(0,3),(1,3),(2,33)],3,40,[.d (.int .i64 0),.d (.int .i64 0),.fl 0 fun _=>[]]⟩),
 (47,⟨.other,1,8,[.d .any]⟩),
 (49,⟨.struct [(0,9),(1,3),(2,3)],3,32,[.d (.str ByteArray.empty),.d (.int .i64 0),.d (.int .i64 0)]⟩),
 (50,⟨.slice 27,1,24,[.fl 0 fun _=>[]]⟩),
 (51,⟨.slice 33,1,24,[.fl 0 fun _=>[]]⟩),
 (54,⟨.array 2 3,2,16,[.d (.int .i64 0),.d (.int .i64 0)]⟩),
 (55,⟨.slice 54,1,24,[.fl 0 fun _=>[]]⟩),
 (62,⟨.slice 64,1,24,[.fl 0 fun _=>[]]⟩),
 (64,⟨.struct [(0,3),(1,3),(2,3),(3,3),(4,33)],5,56,[.d (.int .i64 0),.d (.int .i64 0),.d (.int .i64 0),.d (.int .i64 0),.fl 0 fun _=>[]]⟩),
 (81,⟨.int .u32,1,4,[.d (.int .u32 0)]⟩),
 (95,⟨.slice 101,1,24,[.fl 0 fun _=>[]]⟩),
 (101,⟨.struct [(0,3),(1,33),(2,3),(3,3)],4,48,[.d (.int .i64 0),.fl 0 fun _=>[],.d (.int .i64 0),.d (.int .i64 0)]⟩),
 (103,⟨.struct [(0,3),(1,3),(2,3),(3,3)],4,32,[.d (.int .i64 0),.d (.int .i64 0),.d (.int .i64 0),.d (.int .i64 0)]⟩),
 (114,⟨.struct [(0,22),(1,3)],2,32,[.fl 0 fun _=>[],.d (.int .i64 0)]⟩),
 (115,⟨.slice 9,1,24,[.fl 0 fun _=>[]]⟩),
 (118,⟨.other,1,8,[.d .any]⟩),
 (120,⟨.other,1,8,[.d .any]⟩),
 (123,⟨.other,1,8,[.d .any]⟩),
 (126,⟨.other,1,8,[.d .any]⟩),
 (128,⟨.other,1,8,[.d .any]⟩),
 (144,⟨.other,1,8,[.d .any]⟩),
 (149,⟨.other,1,8,[.d .any]⟩),
 (153,⟨.other,1,8,[.d .any]⟩),
 (159,⟨.struct [(0,27),(1,25)],2,48,[.fl 0 fun _=>[],.fl 0 fun _=>[]]⟩),
 (174,⟨.int .u64,1,8,[.d (.int .u64 0)]⟩),
 (179,⟨.other,1,8,[.d .any]⟩),
 (190,⟨.other,1,8,[.d .any]⟩),
 (195,⟨.slice 237,1,24,[.fl 0 fun _=>[]]⟩),
 (198,⟨.other,1,8,[.d .any]⟩),
 (202,⟨.int .u64,1,8,[.d (.int .u64 0)]⟩),
 (205,⟨.slice 31,1,24,[.fl 0 fun _=>[]]⟩),
 (232,⟨.slice 234,1,24,[.fl 0 fun _=>[]]⟩),
 (234,⟨.struct [(0,3),(1,3),(2,195)],3,40,[.d (.int .i64 0),.d (.int .i64 0),.fl 0 fun _=>[]]⟩),
 (237,⟨.struct [(0,3),(1,3)],2,16,[.d (.int .i64 0),.d (.int .i64 0)]⟩),
 (243,⟨.other,1,8,[.d .any]⟩),
 (259,⟨.struct [(0,174),(1,174)],2,16,[.d (.int .u64 0),.d (.int .u64 0)]⟩),
 (273,⟨.slice 195,1,24,[.fl 0 fun _=>[]]⟩),
 (276,⟨.other,1,8,[.d .any]⟩)]
theorem Y6B:TT.map (fun p=>Y1q Tryz.prog p.1)=TT.map (fun p=>some p.2):=by kernel_rfl
theorem Q4:LOk Tryz.prog (Y4u TT):=Y5B Y6B
theorem Q2:Tryz.prog.follows .mixedOrders=true:=by kernel_rfl
theorem Y3K:EqT Tryz.prog 103:=⟨by kernel_rfl,by kernel_rfl,by kernel_rfl⟩
theorem Y5N:EqT Tryz.prog 237:=⟨by kernel_rfl,by kernel_rfl,by kernel_rfl⟩
theorem Y6k:EqP Tryz.prog 54:=⟨⟨3,(Tryz.prog.info? 3).get (by kernel_rfl),by kernel_rfl,by kernel_rfl,by kernel_rfl,by kernel_rfl⟩,by kernel_rfl⟩
theorem Z6I:slT (Y4u TT) 22 ⟨.int .i64,1,8,[.d (.int .i64 0)]⟩:=⟨⟨.slice 3,1,24,[.fl 0 fun _=>[]]⟩,3,by kernel_rfl,by kernel_rfl,by kernel_rfl⟩
theorem Y2V:slT (Y4u TT) 27 ⟨.struct [(0,3),(1,3),(2,33)],3,40,[.d (.int .i64 0),.d (.int .i64 0),.fl 0 fun _=>[]]⟩:=⟨⟨.slice 44,1,24,[.fl 0 fun _=>[]]⟩,44,by kernel_rfl,by kernel_rfl,by kernel_rfl⟩
end Go.Ab
end
section
namespace Go.Proofs
open Go.Shelf
def Tryz.lay214_ren:Go.Shelf.Ren:=⟨fun|5=>214|8=>195|7=>261|19=>254|20=>255|10=>295|11=>296|12=>297|13=>298|14=>299|15=>300|16=>301|17=>302|18=>303|30=>328|31=>289|32=>290|33=>329|34=>330|35=>256|40=>338|n=>n,fun|23=>22|25=>3|3=>3|32=>202|22=>22|0=>0|44=>81|46=>174|4=>4|36=>246|35=>245|41=>147|5=>5|9=>9|53=>278|57=>282|63=>306|64=>171|n=>n,fun|n=>n⟩
theorem Tryz.lay214:Go.Proofs.SlLaysM.n5 Tryz.prog Tryz.lay214_ren:= {
 mixed:=by kernel_rfl
 f5:=⟨Tryz.f214.name,by decide,Tryz.func214.trans (congrArg some (by kernel_rfl))⟩
 f7:=⟨Tryz.f261.name,by decide,Tryz.func261.trans (congrArg some (by kernel_rfl))⟩
 f8:=Tryz.func195.trans (congrArg some (by kernel_rfl))
 f10:=⟨Tryz.f295.name,by decide,Tryz.func295.trans (congrArg some (by kernel_rfl))⟩
 f11:=⟨Tryz.f296.name,by decide,Tryz.func296.trans (congrArg some (by kernel_rfl))⟩
 f12:=⟨Tryz.f297.name,by decide,Tryz.func297.trans (congrArg some (by kernel_rfl))⟩
 f13:=⟨Tryz.f298.name,by decide,Tryz.func298.trans (congrArg some (by kernel_rfl))⟩
 f14:=⟨Tryz.f299.name,by decide,Tryz.func299.trans (congrArg some (by kernel_rfl))⟩
 f15:=⟨Tryz.f300.name,by decide,Tryz.func300.trans (congrArg some (by kernel_rfl))⟩
 f16:=⟨Tryz.f301.name,by decide,Tryz.func301.trans (congrArg some (by kernel_rfl))⟩
 f17:=⟨Tryz.f302.name,by decide,Tryz.func302.trans (congrArg some (by kernel_rfl))⟩
 f18:=⟨Tryz.f303.name,by decide,Tryz.func303.trans (congrArg some (by kernel_rfl))⟩
 f19:=Tryz.func254.trans (congrArg some (by kernel_rfl))
 f20:=Tryz.func255.trans (congrArg some (by kernel_rfl))
 f30:=⟨Tryz.f328.name,by decide,Tryz.func328.trans (congrArg some (by kernel_rfl))⟩
 f31:=Tryz.func289.trans (congrArg some (by kernel_rfl))
 f32:=Tryz.func290.trans (congrArg some (by kernel_rfl))
 f33:=⟨Tryz.f329.name,by decide,Tryz.func329.trans (congrArg some (by kernel_rfl))⟩
 f34:=⟨Tryz.f330.name,by decide,Tryz.func330.trans (congrArg some (by kernel_rfl))⟩
 f35:=⟨Tryz.f256.name,by decide,Tryz.func256.trans (congrArg some (by kernel_rfl))⟩
 f40:=⟨Tryz.f338.name,by decide,Tryz.func338.trans (congrArg some (by kernel_rfl))⟩
 t0:=Tryz.underlying0
 a0:=Tryz.isAgg0
 z0:=Tryz.sizeOf0
 v0:=Tryz.zeroValue0
 t3:=Tryz.underlying3
 a3:=Tryz.isAgg3
 z3:=Tryz.sizeOf3
 v3:=Tryz.zeroValue3
 t4:=Tryz.underlying4
 a4:=Tryz.isAgg4
 z4:=Tryz.sizeOf4
 v4:=Tryz.zeroValue4
 t5:=Tryz.underlying5
 a5:=Tryz.isAgg5
 z5:=Tryz.sizeOf5
 v5:=Tryz.zeroValue5
 t9:=Tryz.underlying9
 a9:=Tryz.isAgg9
 z9:=Tryz.sizeOf9
 v9:=Tryz.zeroValue9
 t22:=Tryz.underlying22
 a22:=Tryz.isAgg22
 z22:=Tryz.sizeOf22
 v22:=Tryz.zeroValue22
 t23:=Tryz.underlying22
 a23:=Tryz.isAgg22
 z23:=Tryz.sizeOf22
 v23:=Tryz.zeroValue22
 t25:=Tryz.underlying3
 a25:=Tryz.isAgg3
 z25:=Tryz.sizeOf3
 v25:=Tryz.zeroValue3
 t32:=Tryz.underlying202
 a32:=Tryz.isAgg202
 z32:=Tryz.sizeOf202
 v32:=Tryz.zeroValue202
 t35:=Tryz.underlying245
 a35:=Tryz.isAgg245
 z35:=Tryz.sizeOf245
 v35:=Tryz.zeroValue245
 t36:=Tryz.underlying246
 a36:=Tryz.isAgg246
 z36:=Tryz.sizeOf246
 v36:=Tryz.zeroValue246
 t41:=Tryz.underlying147
 a41:=Tryz.isAgg147
 z41:=Tryz.sizeOf147
 v41:=Tryz.zeroValue147
 t44:=Tryz.underlying81
 a44:=Tryz.isAgg81
 z44:=Tryz.sizeOf81
 v44:=Tryz.zeroValue81
 t46:=Tryz.underlying174
 a46:=Tryz.isAgg174
 z46:=Tryz.sizeOf174
 v46:=Tryz.zeroValue174
 t53:=Tryz.underlying278
 a53:=Tryz.isAgg278
 z53:=Tryz.sizeOf278
 v53:=Tryz.zeroValue278
 t57:=Tryz.underlying282
 a57:=Tryz.isAgg282
 z57:=Tryz.sizeOf282
 v57:=Tryz.zeroValue282
 t63:=Tryz.underlying306
 a63:=Tryz.isAgg306
 z63:=Tryz.sizeOf306
 v63:=Tryz.zeroValue306
 t64:=Tryz.underlying171
 a64:=Tryz.isAgg171
 z64:=Tryz.sizeOf171
 v64:=Tryz.zeroValue171 }
def Tryz.lay244_ren:Go.Shelf.Ren:=⟨fun|6=>244|15=>195|14=>287|28=>254|29=>255|20=>319|21=>320|22=>321|23=>322|24=>323|25=>324|26=>325|27=>326|46=>335|47=>289|48=>290|49=>336|50=>337|57=>340|n=>n,fun|22=>195|24=>237|25=>243|3=>3|39=>202|0=>0|53=>81|55=>174|4=>4|46=>246|45=>245|50=>147|5=>5|9=>9|66=>278|70=>282|76=>306|77=>171|n=>n,fun|n=>n⟩
theorem Tryz.lay244:Go.Proofs.SlLaysF0.n6 Tryz.prog Tryz.lay244_ren:= {
 mixed:=by kernel_rfl
 f6:=⟨Tryz.f244.name,by decide,Tryz.func244.trans (congrArg some (by kernel_rfl))⟩
 f14:=⟨Tryz.f287.name,by decide,Tryz.func287.trans (congrArg some (by kernel_rfl))⟩
 f15:=Tryz.func195.trans (congrArg some (by kernel_rfl))
 f20:=⟨Tryz.f319.name,by decide,Tryz.func319.trans (congrArg some (by kernel_rfl))⟩
 f21:=⟨Tryz.f320.name,by decide,Tryz.func320.trans (congrArg some (by kernel_rfl))⟩
 f22:=⟨Tryz.f321.name,by decide,Tryz.func321.trans (congrArg some (by kernel_rfl))⟩
 f23:=⟨Tryz.f322.name,by decide,Tryz.func322.trans (congrArg some (by kernel_rfl))⟩
 f24:=⟨Tryz.f323.name,by decide,Tryz.func323.trans (congrArg some (by kernel_rfl))⟩
 f25:=⟨Tryz.f324.name,by decide,Tryz.func324.trans (congrArg some (by kernel_rfl))⟩
 f26:=⟨Tryz.f325.name,by decide,Tryz.func325.trans (congrArg some (by kernel_rfl))⟩
 f27:=⟨Tryz.f326.name,by decide,Tryz.func326.trans (congrArg some (by kernel_rfl))⟩
 f28:=Tryz.func254.trans (congrArg some (by kernel_rfl))
 f29:=Tryz.func255.trans (congrArg some (by kernel_rfl))
 f46:=⟨Tryz.f335.name,by decide,Tryz.func335.trans (congrArg some (by kernel_rfl))⟩
 f47:=Tryz.func289.trans (congrArg some (by kernel_rfl))
 f48:=Tryz.func290.trans (congrArg some (by kernel_rfl))
 f49:=⟨Tryz.f336.name,by decide,Tryz.func336.trans (congrArg some (by kernel_rfl))⟩
 f50:=⟨Tryz.f337.name,by decide,Tryz.func337.trans (congrArg some (by kernel_rfl))⟩
 f57:=⟨Tryz.f340.name,by decide,Tryz.func340.trans (congrArg some (by kernel_rfl))⟩
 t0:=Tryz.underlying0
 a0:=Tryz.isAgg0
 z0:=Tryz.sizeOf0
 v0:=Tryz.zeroValue0
 t3:=Tryz.underlying3
 a3:=Tryz.isAgg3
 z3:=Tryz.sizeOf3
 v3:=Tryz.zeroValue3
 t4:=Tryz.underlying4
 a4:=Tryz.isAgg4
 z4:=Tryz.sizeOf4
 v4:=Tryz.zeroValue4
 t5:=Tryz.underlying5
 a5:=Tryz.isAgg5
 z5:=Tryz.sizeOf5
 v5:=Tryz.zeroValue5
 t9:=Tryz.underlying9
 a9:=Tryz.isAgg9
 z9:=Tryz.sizeOf9
 v9:=Tryz.zeroValue9
 t22:=Tryz.underlying195
 a22:=Tryz.isAgg195
 z22:=Tryz.sizeOf195
 v22:=Tryz.zeroValue195
 t25:=Tryz.underlying243
 a25:=Tryz.isAgg243
 z25:=Tryz.sizeOf243
 v25:=Tryz.zeroValue243
 t39:=Tryz.underlying202
 a39:=Tryz.isAgg202
 z39:=Tryz.sizeOf202
 v39:=Tryz.zeroValue202
 t45:=Tryz.underlying245
 a45:=Tryz.isAgg245
 z45:=Tryz.sizeOf245
 v45:=Tryz.zeroValue245
 t46:=Tryz.underlying246
 a46:=Tryz.isAgg246
 z46:=Tryz.sizeOf246
 v46:=Tryz.zeroValue246
 t50:=Tryz.underlying147
 a50:=Tryz.isAgg147
 z50:=Tryz.sizeOf147
 v50:=Tryz.zeroValue147
 t53:=Tryz.underlying81
 a53:=Tryz.isAgg81
 z53:=Tryz.sizeOf81
 v53:=Tryz.zeroValue81
 t55:=Tryz.underlying174
 a55:=Tryz.isAgg174
 z55:=Tryz.sizeOf174
 v55:=Tryz.zeroValue174
 t66:=Tryz.underlying278
 a66:=Tryz.isAgg278
 z66:=Tryz.sizeOf278
 v66:=Tryz.zeroValue278
 t70:=Tryz.underlying282
 a70:=Tryz.isAgg282
 z70:=Tryz.sizeOf282
 v70:=Tryz.zeroValue282
 t76:=Tryz.underlying306
 a76:=Tryz.isAgg306
 z76:=Tryz.sizeOf306
 v76:=Tryz.zeroValue306
 t77:=Tryz.underlying171
 a77:=Tryz.isAgg171
 z77:=Tryz.sizeOf171
 v77:=Tryz.zeroValue171 }
def Tryz.lay284_ren:Go.Shelf.Ren:=⟨fun|4=>284|n=>n,fun|22=>195|25=>237|3=>3|4=>4|9=>9|20=>20|0=>0|2=>3|n=>n,fun|n=>n⟩
theorem Tryz.lay284:Go.Proofs.Lays8.n4 Tryz.prog Tryz.lay284_ren:= {
 mixed:=by kernel_rfl
 f4:=⟨Tryz.f284.name,by decide,Tryz.func284.trans (congrArg some (by kernel_rfl))⟩
 t0:=Tryz.underlying0
 a0:=Tryz.isAgg0
 z0:=Tryz.sizeOf0
 v0:=Tryz.zeroValue0
 t3:=Tryz.underlying3
 a3:=Tryz.isAgg3
 z3:=Tryz.sizeOf3
 v3:=Tryz.zeroValue3
 t4:=Tryz.underlying4
 a4:=Tryz.isAgg4
 z4:=Tryz.sizeOf4
 v4:=Tryz.zeroValue4
 t9:=Tryz.underlying9
 a9:=Tryz.isAgg9
 z9:=Tryz.sizeOf9
 v9:=Tryz.zeroValue9
 t20:=Tryz.underlying20
 a20:=Tryz.isAgg20
 z20:=Tryz.sizeOf20
 v20:=Tryz.zeroValue20
 t22:=Tryz.underlying195
 a22:=Tryz.isAgg195
 z22:=Tryz.sizeOf195
 v22:=Tryz.zeroValue195 }
end Go.Proofs
end
