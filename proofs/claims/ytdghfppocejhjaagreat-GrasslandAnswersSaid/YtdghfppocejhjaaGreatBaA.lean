/- The types of the program, its sorts and their contracts: no condition. -/
import Derived.Test.YtdghfppocejhjaaGreatPuB
import Derived.Test.YtdghfppocejhjaaGreatProg
import Derived.Shelf.SlGeneric
import Derived.Shelf.SortM.Plain
import Derived.Shelf.SortM.SortNone
import Derived.Shelf.SlSortCmp.WholeK
import Derived.Shelf.SlSortCmp.Whole1
import Derived.Shelf.SlSortCmp.NoneTotal
import Derived.Shelf.Spec.SlicesGrow
import Derived.Ground.SlgmProg
import Derived.Ground.SlsfProg
import Derived.Ground.Names8Prog
import Derived.Test.YtdghfppocejhjaaGreatAbC
set_option linter.unusedVariables false
set_option linter.unusedSimpArgs false
section
namespace Go.Ab
open Go.Proofs
set_option linter.unusedVariables false
set_option maxRecDepth 100000
def TT:List (Nat×TI):=[
 (3,⟨.int .i64,1,8,[.d (.int .i64 0)]⟩),
 (4,⟨.bool,1,1,[.d (.bool false)]⟩),
 (5,⟨.int .u8,1,1,[.d (.int .u8 0)]⟩),
 (9,⟨.str,1,16,[.d (.str ByteArray.empty)]⟩),
 (22,⟨.slice 27,1,24,[.fl 0 fun _=>[]]⟩),
 (23,⟨.slice 79,1,24,[.fl 0 fun _=>[]]⟩),
 (25,⟨.struct [(0,23)],1,24,[.fl 0 fun _=>[]]⟩),
 (27,⟨.struct [(0,3),(1,3),(2,3),(3,3),(4,25)],5,56,[.d (.int .i64 0),.d (.int .i64 0),.d (.int .i64 0),.d (.int .i64 0),.fl 0 fun _=>[]]⟩),
 (28,⟨.slice 3,1,24,[.fl 0 fun _=>[]]⟩),
 (30,⟨.other,1,8,[.d .any]⟩),
 (34,⟨.other,1,8,[.d .any]⟩),
 (35,⟨.slice 22,1,24,[.fl 0 fun _=>[]]⟩),
 (36,⟨.int .i64,1,8,[.d (.int .i64 0)]⟩),
 (52,⟨.int .u32,1,4,[.d (.int .u32 0)]⟩),
 (53,⟨.slice 66,1,24,[.fl 0 fun _=>[]]⟩),
 (54,⟨.slice 68,1,24,[.fl 0 fun _=>[]]⟩),
 (61,⟨.slice 25,1,24,[.fl 0 fun _=>[]]⟩),
 (66,⟨.struct [(0,9),(1,3),(2,3)],3,32,[.d (.str ByteArray.empty),.d (.int .i64 0),.d (.int .i64 0)]⟩),
 (68,⟨.struct [(0,3),(1,3),(2,25)],3,40,[.d (.int .i64 0),.d (.int .i64 0),.fl 0 fun _=>[]]⟩),
 (70,⟨.array 2 3,2,16,[.d (.int .i64 0),.d (.int .i64 0)]⟩),
 (71,⟨.slice 70,1,24,[.fl 0 fun _=>[]]⟩),
 (76,⟨.slice 61,1,24,[.fl 0 fun _=>[]]⟩),
 (79,⟨.struct [(0,3),(1,3),(2,3),(3,3)],4,32,[.d (.int .i64 0),.d (.int .i64 0),.d (.int .i64 0),.d (.int .i64 0)]⟩),
 (81,⟨.struct [(0,28),(1,3)],2,32,[.fl 0 fun _=>[],.d (.int .i64 0)]⟩),
 (88,⟨.other,1,8,[.d .any]⟩),
 (91,⟨.other,1,8,[.d .any]⟩),
 (95,⟨.other,1,8,[.d .any]⟩),
 (100,⟨.other,1,8,[.d .any]⟩),
 (109,⟨.struct [(0,54),(1,53)],2,48,[.fl 0 fun _=>[],.fl 0 fun _=>[]]⟩),
 (115,⟨.other,1,8,[.d .any]⟩),
 (127,⟨.int .u64,1,8,[.d (.int .u64 0)]⟩),
 (133,⟨.int .u64,1,8,[.d (.int .u64 0)]⟩),
 (137,⟨.other,1,8,[.d .any]⟩),
 (148,⟨.slice 23,1,24,[.fl 0 fun _=>[]]⟩),
 (156,⟨.slice 4,1,24,[.fl 0 fun _=>[]]⟩),
 (159,⟨.slice 187,1,24,[.fl 0 fun _=>[]]⟩),
 (161,⟨.other,1,8,[.d .any]⟩),
 (168,⟨.other,1,8,[.d .any]⟩),
 (171,⟨.other,1,8,[.d .any]⟩),
 (175,⟨.other,1,8,[.d .any]⟩),
 (178,⟨.struct [(0,127),(1,127)],2,16,[.d (.int .u64 0),.d (.int .u64 0)]⟩),
 (182,⟨.slice 184,1,24,[.fl 0 fun _=>[]]⟩),
 (184,⟨.struct [(0,3),(1,3),(2,159)],3,40,[.d (.int .i64 0),.d (.int .i64 0),.fl 0 fun _=>[]]⟩),
 (187,⟨.struct [(0,3),(1,3)],2,16,[.d (.int .i64 0),.d (.int .i64 0)]⟩),
 (191,⟨.other,1,8,[.d .any]⟩),
 (231,⟨.slice 159,1,24,[.fl 0 fun _=>[]]⟩),
 (234,⟨.other,1,8,[.d .any]⟩)]
theorem TTok:TT.map (fun p=>layOf Tryz.prog p.1)=TT.map (fun p=>some p.2):=by kernel_rfl
theorem prog_lay:LOk Tryz.prog (tblL TT):=tbl_ok TTok
theorem prog_mixed:Tryz.prog.follows .mixedOrders=true:=by kernel_rfl
theorem eqT79:EqT Tryz.prog 79:=⟨by kernel_rfl,by kernel_rfl,by kernel_rfl⟩
theorem eqT187:EqT Tryz.prog 187:=⟨by kernel_rfl,by kernel_rfl,by kernel_rfl⟩
theorem slT28:slT (tblL TT) 28 ⟨.int .i64,1,8,[.d (.int .i64 0)]⟩:=⟨⟨.slice 3,1,24,[.fl 0 fun _=>[]]⟩,3,by kernel_rfl,by kernel_rfl,by kernel_rfl⟩
theorem slT54:slT (tblL TT) 54 ⟨.struct [(0,3),(1,3),(2,25)],3,40,[.d (.int .i64 0),.d (.int .i64 0),.fl 0 fun _=>[]]⟩:=⟨⟨.slice 68,1,24,[.fl 0 fun _=>[]]⟩,68,by kernel_rfl,by kernel_rfl,by kernel_rfl⟩
end Go.Ab
end

section
namespace Go.Proofs
open Go.Shelf
def Tryz.lay113_ren:Go.Shelf.Ren:=⟨fun | 5=>113 | 8=>156 | 7=>155 | 19=>187 | 20=>188 | 10=>178 | 11=>179 | 12=>180 | 13=>181 | 14=>182 | 15=>183 | 16=>184 | 17=>185 | 18=>186 | 30=>204 | 31=>205 | 32=>206 | 33=>207 | 34=>208 | 35=>151 | 40=>223 | n=>n,fun | 23=>28 | 25=>3 | 3=>3 | 32=>133 | 22=>28 | 0=>0 | 44=>52 | 46=>127 | 4=>4 | 36=>195 | 35=>194 | 41=>93 | 5=>5 | 9=>9 | 53=>214 | 57=>218 | 63=>229 | 64=>124 | n=>n,fun | n=>n⟩
theorem Tryz.lay113:Go.Proofs.SlLaysM.n5 Tryz.prog Tryz.lay113_ren:= {
 mixed:=by kernel_rfl
 f5:=⟨Tryz.f113.name,by decide,Tryz.func113.trans (congrArg some (by kernel_rfl))⟩
 f7:=⟨Tryz.f155.name,by decide,Tryz.func155.trans (congrArg some (by kernel_rfl))⟩
 f8:=Tryz.func156.trans (congrArg some (by kernel_rfl))
 f10:=⟨Tryz.f178.name,by decide,Tryz.func178.trans (congrArg some (by kernel_rfl))⟩
 f11:=⟨Tryz.f179.name,by decide,Tryz.func179.trans (congrArg some (by kernel_rfl))⟩
 f12:=⟨Tryz.f180.name,by decide,Tryz.func180.trans (congrArg some (by kernel_rfl))⟩
 f13:=⟨Tryz.f181.name,by decide,Tryz.func181.trans (congrArg some (by kernel_rfl))⟩
 f14:=⟨Tryz.f182.name,by decide,Tryz.func182.trans (congrArg some (by kernel_rfl))⟩
 f15:=⟨Tryz.f183.name,by decide,Tryz.func183.trans (congrArg some (by kernel_rfl))⟩
 f16:=⟨Tryz.f184.name,by decide,Tryz.func184.trans (congrArg some (by kernel_rfl))⟩
 f17:=⟨Tryz.f185.name,by decide,Tryz.func185.trans (congrArg some (by kernel_rfl))⟩
 f18:=⟨Tryz.f186.name,by decide,Tryz.func186.trans (congrArg some (by kernel_rfl))⟩
 f19:=Tryz.func187.trans (congrArg some (by kernel_rfl))
 f20:=Tryz.func188.trans (congrArg some (by kernel_rfl))
 f30:=⟨Tryz.f204.name,by decide,Tryz.func204.trans (congrArg some (by kernel_rfl))⟩
 f31:=Tryz.func205.trans (congrArg some (by kernel_rfl))
 f32:=Tryz.func206.trans (congrArg some (by kernel_rfl))
 f33:=⟨Tryz.f207.name,by decide,Tryz.func207.trans (congrArg some (by kernel_rfl))⟩
 f34:=⟨Tryz.f208.name,by decide,Tryz.func208.trans (congrArg some (by kernel_rfl))⟩
 f35:=⟨Tryz.f151.name,by decide,Tryz.func151.trans (congrArg some (by kernel_rfl))⟩
 f40:=⟨Tryz.f223.name,by decide,Tryz.func223.trans (congrArg some (by kernel_rfl))⟩
 t0:=Tryz.underlying0
 a0:=Tryz.isAgg0
 z0:=Tryz.sizeOf0
 v0:=Tryz.zeroValue0
 t3:=Tryz.underlying3
 a3:=Tryz.isAgg3
 z3:=Tryz.sizeOf3
 v3:=Tryz.zeroValue3
 t4:=Tryz.underlying4
 a4:=Tryz.isAgg4
 z4:=Tryz.sizeOf4
 v4:=Tryz.zeroValue4
 t5:=Tryz.underlying5
 a5:=Tryz.isAgg5
 z5:=Tryz.sizeOf5
 v5:=Tryz.zeroValue5
 t9:=Tryz.underlying9
 a9:=Tryz.isAgg9
 z9:=Tryz.sizeOf9
 v9:=Tryz.zeroValue9
 t22:=Tryz.underlying28
 a22:=Tryz.isAgg28
 z22:=Tryz.sizeOf28
 v22:=Tryz.zeroValue28
 t23:=Tryz.underlying28
 a23:=Tryz.isAgg28
 z23:=Tryz.sizeOf28
 v23:=Tryz.zeroValue28
 t25:=Tryz.underlying3
 a25:=Tryz.isAgg3
 z25:=Tryz.sizeOf3
 v25:=Tryz.zeroValue3
 t32:=Tryz.underlying133
 a32:=Tryz.isAgg133
 z32:=Tryz.sizeOf133
 v32:=Tryz.zeroValue133
 t35:=Tryz.underlying194
 a35:=Tryz.isAgg194
 z35:=Tryz.sizeOf194
 v35:=Tryz.zeroValue194
 t36:=Tryz.underlying195
 a36:=Tryz.isAgg195
 z36:=Tryz.sizeOf195
 v36:=Tryz.zeroValue195
 t41:=Tryz.underlying93
 a41:=Tryz.isAgg93
 z41:=Tryz.sizeOf93
 v41:=Tryz.zeroValue93
 t44:=Tryz.underlying52
 a44:=Tryz.isAgg52
 z44:=Tryz.sizeOf52
 v44:=Tryz.zeroValue52
 t46:=Tryz.underlying127
 a46:=Tryz.isAgg127
 z46:=Tryz.sizeOf127
 v46:=Tryz.zeroValue127
 t53:=Tryz.underlying214
 a53:=Tryz.isAgg214
 z53:=Tryz.sizeOf214
 v53:=Tryz.zeroValue214
 t57:=Tryz.underlying218
 a57:=Tryz.isAgg218
 z57:=Tryz.sizeOf218
 v57:=Tryz.zeroValue218
 t63:=Tryz.underlying229
 a63:=Tryz.isAgg229
 z63:=Tryz.sizeOf229
 v63:=Tryz.zeroValue229
 t64:=Tryz.underlying124
 a64:=Tryz.isAgg124
 z64:=Tryz.sizeOf124
 v64:=Tryz.zeroValue124 }
def Tryz.lay175_ren:Go.Shelf.Ren:=⟨fun | 6=>175 | 15=>156 | 14=>203 | 28=>187 | 29=>188 | 20=>215 | 21=>216 | 22=>217 | 23=>218 | 24=>219 | 25=>220 | 26=>221 | 27=>222 | 46=>228 | 47=>205 | 48=>206 | 49=>229 | 50=>230 | 57=>232 | n=>n,fun | 22=>159 | 24=>187 | 25=>191 | 3=>3 | 39=>133 | 0=>0 | 53=>52 | 55=>127 | 4=>4 | 46=>195 | 45=>194 | 50=>93 | 5=>5 | 9=>9 | 66=>214 | 70=>218 | 76=>229 | 77=>124 | n=>n,fun | n=>n⟩
theorem Tryz.lay175:Go.Proofs.SlLaysF0.n6 Tryz.prog Tryz.lay175_ren:= {
 mixed:=by kernel_rfl
 f6:=⟨Tryz.f175.name,by decide,Tryz.func175.trans (congrArg some (by kernel_rfl))⟩
 f14:=⟨Tryz.f203.name,by decide,Tryz.func203.trans (congrArg some (by kernel_rfl))⟩
 f15:=Tryz.func156.trans (congrArg some (by kernel_rfl))
 f20:=⟨Tryz.f215.name,by decide,Tryz.func215.trans (congrArg some (by kernel_rfl))⟩
 f21:=⟨Tryz.f216.name,by decide,Tryz.func216.trans (congrArg some (by kernel_rfl))⟩
 f22:=⟨Tryz.f217.name,by decide,Tryz.func217.trans (congrArg some (by kernel_rfl))⟩
 f23:=⟨Tryz.f218.name,by decide,Tryz.func218.trans (congrArg some (by kernel_rfl))⟩
 f24:=⟨Tryz.f219.name,by decide,Tryz.func219.trans (congrArg some (by kernel_rfl))⟩
 f25:=⟨Tryz.f220.name,by decide,Tryz.func220.trans (congrArg some (by kernel_rfl))⟩
 f26:=⟨Tryz.f221.name,by decide,Tryz.func221.trans (congrArg some (by kernel_rfl))⟩
 f27:=⟨Tryz.f222.name,by decide,Tryz.func222.trans (congrArg some (by kernel_rfl))⟩
 f28:=Tryz.func187.trans (congrArg some (by kernel_rfl))
 f29:=Tryz.func188.trans (congrArg some (by kernel_rfl))
 f46:=⟨Tryz.f228.name,by decide,Tryz.func228.trans (congrArg some (by kernel_rfl))⟩
 f47:=Tryz.func205.trans (congrArg some (by kernel_rfl))
 f48:=Tryz.func206.trans (congrArg some (by kernel_rfl))
 f49:=⟨Tryz.f229.name,by decide,Tryz.func229.trans (congrArg some (by kernel_rfl))⟩
 f50:=⟨Tryz.f230.name,by decide,Tryz.func230.trans (congrArg some (by kernel_rfl))⟩
 f57:=⟨Tryz.f232.name,by decide,Tryz.func232.trans (congrArg some (by kernel_rfl))⟩
 t0:=Tryz.underlying0
 a0:=Tryz.isAgg0
 z0:=Tryz.sizeOf0
 v0:=Tryz.zeroValue0
 t3:=Tryz.underlying3
 a3:=Tryz.isAgg3
 z3:=Tryz.sizeOf3
 v3:=Tryz.zeroValue3
 t4:=Tryz.underlying4
 a4:=Tryz.isAgg4
 z4:=Tryz.sizeOf4
 v4:=Tryz.zeroValue4
 t5:=Tryz.underlying5
 a5:=Tryz.isAgg5
 z5:=Tryz.sizeOf5
 v5:=Tryz.zeroValue5
 t9:=Tryz.underlying9
 a9:=Tryz.isAgg9
 z9:=Tryz.sizeOf9
 v9:=Tryz.zeroValue9
 t22:=Tryz.underlying159
 a22:=Tryz.isAgg159
 z22:=Tryz.sizeOf159
 v22:=Tryz.zeroValue159
 t25:=Tryz.underlying191
 a25:=Tryz.isAgg191
 z25:=Tryz.sizeOf191
 v25:=Tryz.zeroValue191
 t39:=Tryz.underlying133
 a39:=Tryz.isAgg133
 z39:=Tryz.sizeOf133
 v39:=Tryz.zeroValue133
 t45:=Tryz.underlying194
 a45:=Tryz.isAgg194
 z45:=Tryz.sizeOf194
 v45:=Tryz.zeroValue194
 t46:=Tryz.underlying195
 a46:=Tryz.isAgg195
 z46:=Tryz.sizeOf195
 v46:=Tryz.zeroValue195
 t50:=Tryz.underlying93
 a50:=Tryz.isAgg93
 z50:=Tryz.sizeOf93
 v50:=Tryz.zeroValue93
 t53:=Tryz.underlying52
 a53:=Tryz.isAgg52
 z53:=Tryz.sizeOf52
 v53:=Tryz.zeroValue52
 t55:=Tryz.underlying127
 a55:=Tryz.isAgg127
 z55:=Tryz.sizeOf127
 v55:=Tryz.zeroValue127
 t66:=Tryz.underlying214
 a66:=Tryz.isAgg214
 z66:=Tryz.sizeOf214
 v66:=Tryz.zeroValue214
 t70:=Tryz.underlying218
 a70:=Tryz.isAgg218
 z70:=Tryz.sizeOf218
 v70:=Tryz.zeroValue218
 t76:=Tryz.underlying229
 a76:=Tryz.isAgg229
 z76:=Tryz.sizeOf229
 v76:=Tryz.zeroValue229
 t77:=Tryz.underlying124
 a77:=Tryz.isAgg124
 z77:=Tryz.sizeOf124
 v77:=Tryz.zeroValue124 }
def Tryz.lay131_ren:Go.Shelf.Ren:=⟨fun | 6=>131 | 15=>156 | 14=>170 | 28=>187 | 29=>188 | 20=>194 | 21=>195 | 22=>196 | 23=>197 | 24=>198 | 25=>199 | 26=>200 | 27=>201 | 46=>211 | 47=>205 | 48=>206 | 49=>212 | 50=>213 | 57=>227 | n=>n,fun | 22=>28 | 24=>3 | 25=>34 | 3=>3 | 39=>133 | 0=>0 | 53=>52 | 55=>127 | 4=>4 | 46=>195 | 45=>194 | 50=>93 | 5=>5 | 9=>9 | 66=>214 | 70=>218 | 76=>229 | 77=>124 | n=>n,fun | n=>n⟩
theorem Tryz.lay131:Go.Proofs.SlLaysF.n6 Tryz.prog Tryz.lay131_ren:= {
 mixed:=by kernel_rfl
 f6:=⟨Tryz.f131.name,by decide,Tryz.func131.trans (congrArg some (by kernel_rfl))⟩
 f14:=⟨Tryz.f170.name,by decide,Tryz.func170.trans (congrArg some (by kernel_rfl))⟩
 f15:=Tryz.func156.trans (congrArg some (by kernel_rfl))
 f20:=⟨Tryz.f194.name,by decide,Tryz.func194.trans (congrArg some (by kernel_rfl))⟩
 f21:=⟨Tryz.f195.name,by decide,Tryz.func195.trans (congrArg some (by kernel_rfl))⟩
 f22:=⟨Tryz.f196.name,by decide,Tryz.func196.trans (congrArg some (by kernel_rfl))⟩
 f23:=⟨Tryz.f197.name,by decide,Tryz.func197.trans (congrArg some (by kernel_rfl))⟩
 f24:=⟨Tryz.f198.name,by decide,Tryz.func198.trans (congrArg some (by kernel_rfl))⟩
 f25:=⟨Tryz.f199.name,by decide,Tryz.func199.trans (congrArg some (by kernel_rfl))⟩
 f26:=⟨Tryz.f200.name,by decide,Tryz.func200.trans (congrArg some (by kernel_rfl))⟩
 f27:=⟨Tryz.f201.name,by decide,Tryz.func201.trans (congrArg some (by kernel_rfl))⟩
 f28:=Tryz.func187.trans (congrArg some (by kernel_rfl))
 f29:=Tryz.func188.trans (congrArg some (by kernel_rfl))
 f46:=⟨Tryz.f211.name,by decide,Tryz.func211.trans (congrArg some (by kernel_rfl))⟩
 f47:=Tryz.func205.trans (congrArg some (by kernel_rfl))
 f48:=Tryz.func206.trans (congrArg some (by kernel_rfl))
 f49:=⟨Tryz.f212.name,by decide,Tryz.func212.trans (congrArg some (by kernel_rfl))⟩
 f50:=⟨Tryz.f213.name,by decide,Tryz.func213.trans (congrArg some (by kernel_rfl))⟩
 f57:=⟨Tryz.f227.name,by decide,Tryz.func227.trans (congrArg some (by kernel_rfl))⟩
 t0:=Tryz.underlying0
 a0:=Tryz.isAgg0
 z0:=Tryz.sizeOf0
 v0:=Tryz.zeroValue0
 t3:=Tryz.underlying3
 a3:=Tryz.isAgg3
 z3:=Tryz.sizeOf3
 v3:=Tryz.zeroValue3
 t4:=Tryz.underlying4
 a4:=Tryz.isAgg4
 z4:=Tryz.sizeOf4
 v4:=Tryz.zeroValue4
 t5:=Tryz.underlying5
 a5:=Tryz.isAgg5
 z5:=Tryz.sizeOf5
 v5:=Tryz.zeroValue5
 t9:=Tryz.underlying9
 a9:=Tryz.isAgg9
 z9:=Tryz.sizeOf9
 v9:=Tryz.zeroValue9
 t22:=Tryz.underlying28
 a22:=Tryz.isAgg28
 z22:=Tryz.sizeOf28
 v22:=Tryz.zeroValue28
 a24:=Tryz.isAgg3
 z24:=Tryz.sizeOf3
 t25:=Tryz.underlying34
 a25:=Tryz.isAgg34
 z25:=Tryz.sizeOf34
 v25:=Tryz.zeroValue34
 t39:=Tryz.underlying133
 a39:=Tryz.isAgg133
 z39:=Tryz.sizeOf133
 v39:=Tryz.zeroValue133
 t45:=Tryz.underlying194
 a45:=Tryz.isAgg194
 z45:=Tryz.sizeOf194
 v45:=Tryz.zeroValue194
 t46:=Tryz.underlying195
 a46:=Tryz.isAgg195
 z46:=Tryz.sizeOf195
 v46:=Tryz.zeroValue195
 t50:=Tryz.underlying93
 a50:=Tryz.isAgg93
 z50:=Tryz.sizeOf93
 v50:=Tryz.zeroValue93
 t53:=Tryz.underlying52
 a53:=Tryz.isAgg52
 z53:=Tryz.sizeOf52
 v53:=Tryz.zeroValue52
 t55:=Tryz.underlying127
 a55:=Tryz.isAgg127
 z55:=Tryz.sizeOf127
 v55:=Tryz.zeroValue127
 t66:=Tryz.underlying214
 a66:=Tryz.isAgg214
 z66:=Tryz.sizeOf214
 v66:=Tryz.zeroValue214
 t70:=Tryz.underlying218
 a70:=Tryz.isAgg218
 z70:=Tryz.sizeOf218
 v70:=Tryz.zeroValue218
 t76:=Tryz.underlying229
 a76:=Tryz.isAgg229
 z76:=Tryz.sizeOf229
 v76:=Tryz.zeroValue229
 t77:=Tryz.underlying124
 a77:=Tryz.isAgg124
 z77:=Tryz.sizeOf124
 v77:=Tryz.zeroValue124 }
def Tryz.lay224_ren:Go.Shelf.Ren:=⟨fun | 4=>224 | n=>n,fun | 22=>159 | 25=>187 | 3=>3 | 4=>4 | 9=>9 | 20=>20 | 0=>0 | 2=>3 | n=>n,fun | n=>n⟩
theorem Tryz.lay224:Go.Proofs.Lays8.n4 Tryz.prog Tryz.lay224_ren:= {
 mixed:=by kernel_rfl
 f4:=⟨Tryz.f224.name,by decide,Tryz.func224.trans (congrArg some (by kernel_rfl))⟩
 t0:=Tryz.underlying0
 a0:=Tryz.isAgg0
 z0:=Tryz.sizeOf0
 v0:=Tryz.zeroValue0
 t3:=Tryz.underlying3
 a3:=Tryz.isAgg3
 z3:=Tryz.sizeOf3
 v3:=Tryz.zeroValue3
 t4:=Tryz.underlying4
 a4:=Tryz.isAgg4
 z4:=Tryz.sizeOf4
 v4:=Tryz.zeroValue4
 t9:=Tryz.underlying9
 a9:=Tryz.isAgg9
 z9:=Tryz.sizeOf9
 v9:=Tryz.zeroValue9
 t20:=Tryz.underlying20
 a20:=Tryz.isAgg20
 z20:=Tryz.sizeOf20
 v20:=Tryz.zeroValue20
 t22:=Tryz.underlying159
 a22:=Tryz.isAgg159
 z22:=Tryz.sizeOf159
 v22:=Tryz.zeroValue159 }
end Go.Proofs
end

section
namespace Go.Ab
open Go.Proofs
theorem sortI_spec {x r:List Int} (h:sortI x=some r):FSpec Tryz.prog 113 [.v (.c (.own 0))] [(0,AO (α:=Int) x)] .any [(0,AO (α:=Int) r)]:=sortI_FSpec Tryz.lay113 h
theorem sortF_spec {x:List Span} {q:Span→Span→Option Int} {r:List Span} (h:sortF x q=some r):FSpec Tryz.prog 175 [.v (.c (.own 0)),.v (.c (.sem (CloOK Tryz.prog (FR_Span_Span_Int q))))] [(0,AO (α:=Span) x)] .any [(0,AO (α:=Span) r)]:=
 sortF_FSpec prog_lay Tryz.lay175 (fun _=>rfl) (te:=⟨.struct [(0,3),(1,3)],2,16,[.d (.int .i64 0),.d (.int .i64 0)]⟩) (by kernel_rfl) rfl rfl FR_Span_Span_Int (fun q x y z hq=>⟨x,y,z,hq,rfl,rfl⟩) h
theorem sortJ_spec {x r:List Int} {q:Int→Int→Option Int} (h:sortG x q=some r):FSpec Tryz.prog 131 [.v (.c (.own 0)),.v (.c (.sem (CloOK Tryz.prog (FR_Int_Int_Int q))))] [(0,AO (α:=Int) x)] .any [(0,AO (α:=Int) r)]:=
 sortJ_FSpec Tryz.lay131 FR_Int_Int_Int (fun q x y z hq=>⟨x,y,z,hq,rfl,rfl⟩) h
theorem growN_spec {n:Int} {r:List Span} (h:growN n=some r):FSpec Tryz.prog 224 [.v (.c (.fl 0 fun _=>[])),vi n] [] (.v (.c (.own 100))) [(100,AO (α:=Span) r)]:=
 growN_FSpec prog_lay Tryz.lay224 (te:=⟨.struct [(0,3),(1,3)],2,16,[.d (.int .i64 0),.d (.int .i64 0)]⟩) (by kernel_rfl) rfl (by decide) (by decide) rfl h
end Go.Ab
end
