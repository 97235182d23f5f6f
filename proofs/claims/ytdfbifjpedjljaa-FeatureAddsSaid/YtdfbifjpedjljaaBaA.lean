/- The types of the program, its sorts and their contracts: no condition. -/
import Derived.Test.YtdfbifjpedjljaaPuC
import Derived.Test.YtdfbifjpedjljaaProg
import Derived.Shelf.SlGeneric
import Derived.Shelf.SortM.Plain
import Derived.Shelf.SortM.SortNone
import Derived.Shelf.SlSortCmp.WholeK
import Derived.Shelf.SlSortCmp.NoneTotal
import Derived.Ground.SlgmProg
import Derived.Ground.SlsfProg
import Derived.Test.YtdfbifjpedjljaaAbC
set_option linter.unusedVariables false
set_option linter.unusedSimpArgs false
section
namespace Go.Ab
open Go.Proofs
set_option linter.unusedVariables false
set_option maxRecDepth 100000
def TT:List (Nat×TI):=[
 (3,⟨.int .i64,1,8,[.d (.int .i64 0)]⟩),
 (4,⟨.bool,1,1,[.d (.bool false)]⟩),
 (22,⟨.slice 3,1,24,[.fl 0 fun _=>[]]⟩),
 (23,⟨.slice 34,1,24,[.fl 0 fun _=>[]]⟩),
 (24,⟨.other,1,8,[.d .any]⟩),
 (27,⟨.int .i64,1,8,[.d (.int .i64 0)]⟩),
 (30,⟨.slice 53,1,24,[.fl 0 fun _=>[]]⟩),
 (32,⟨.struct [(0,30)],1,24,[.fl 0 fun _=>[]]⟩),
 (34,⟨.struct [(0,3),(1,3),(2,3),(3,3),(4,32)],5,56,[.d (.int .i64 0),.d (.int .i64 0),.d (.int .i64 0),.d (.int .i64 0),.fl 0 fun _=>[]]⟩),
 (39,⟨.struct [(0,22),(1,3)],2,32,[.fl 0 fun _=>[],.d (.int .i64 0)]⟩),
 (47,⟨.other,1,8,[.d .any]⟩),
 (53,⟨.struct [(0,3),(1,3),(2,3),(3,3)],4,32,[.d (.int .i64 0),.d (.int .i64 0),.d (.int .i64 0),.d (.int .i64 0)]⟩),
 (58,⟨.int .u64,1,8,[.d (.int .u64 0)]⟩),
 (65,⟨.other,1,8,[.d .any]⟩),
 (69,⟨.other,1,8,[.d .any]⟩),
 (78,⟨.slice 91,1,24,[.fl 0 fun _=>[]]⟩),
 (80,⟨.other,1,8,[.d .any]⟩),
 (82,⟨.slice 30,1,24,[.fl 0 fun _=>[]]⟩),
 (86,⟨.slice 88,1,24,[.fl 0 fun _=>[]]⟩),
 (88,⟨.struct [(0,3),(1,3),(2,78)],3,40,[.d (.int .i64 0),.d (.int .i64 0),.fl 0 fun _=>[]]⟩),
 (91,⟨.struct [(0,3),(1,3)],2,16,[.d (.int .i64 0),.d (.int .i64 0)]⟩),
 (96,⟨.other,1,8,[.d .any]⟩)]
theorem TTok:TT.map (fun p=>layOf Try.prog p.1)=TT.map (fun p=>some p.2):=by kernel_rfl
theorem prog_lay:LOk Try.prog (tblL TT):=tbl_ok TTok
theorem prog_mixed:Try.prog.follows .mixedOrders=true:=by kernel_rfl
theorem eqT53:EqT Try.prog 53:=⟨by kernel_rfl,by kernel_rfl,by kernel_rfl⟩
theorem eqT91:EqT Try.prog 91:=⟨by kernel_rfl,by kernel_rfl,by kernel_rfl⟩
theorem slT22:slT (tblL TT) 22 ⟨.int .i64,1,8,[.d (.int .i64 0)]⟩:=⟨⟨.slice 3,1,24,[.fl 0 fun _=>[]]⟩,3,by kernel_rfl,by kernel_rfl,by kernel_rfl⟩
theorem slT23:slT (tblL TT) 23 ⟨.struct [(0,3),(1,3),(2,3),(3,3),(4,32)],5,56,[.d (.int .i64 0),.d (.int .i64 0),.d (.int .i64 0),.d (.int .i64 0),.fl 0 fun _=>[]]⟩:=⟨⟨.slice 34,1,24,[.fl 0 fun _=>[]]⟩,34,by kernel_rfl,by kernel_rfl,by kernel_rfl⟩
end Go.Ab
end

section
namespace Go.Proofs
open Go.Shelf
def Try.lay65_ren:Go.Shelf.Ren:=⟨fun | 5=>65 | 8=>70 | 7=>69 | 19=>81 | 20=>82 | 10=>72 | 11=>73 | 12=>74 | 13=>75 | 14=>76 | 15=>77 | 16=>78 | 17=>79 | 18=>80 | 30=>91 | 31=>92 | 32=>93 | 33=>94 | 34=>95 | 35=>46 | 40=>99 | n=>n,fun | 23=>22 | 25=>3 | 3=>3 | 32=>58 | 22=>22 | 0=>0 | 44=>109 | 46=>111 | 4=>4 | 36=>102 | 35=>101 | 41=>45 | 5=>5 | 9=>9 | 53=>117 | 57=>121 | 63=>125 | 64=>126 | n=>n,fun | n=>n⟩
theorem Try.lay65:Go.Proofs.SlLaysM.n5 Try.prog Try.lay65_ren:= {
 mixed:=by kernel_rfl
 f5:=⟨Try.f65.name,by decide,Try.func65.trans (congrArg some (by kernel_rfl))⟩
 f7:=⟨Try.f69.name,by decide,Try.func69.trans (congrArg some (by kernel_rfl))⟩
 f8:=Try.func70.trans (congrArg some (by kernel_rfl))
 f10:=⟨Try.f72.name,by decide,Try.func72.trans (congrArg some (by kernel_rfl))⟩
 f11:=⟨Try.f73.name,by decide,Try.func73.trans (congrArg some (by kernel_rfl))⟩
 f12:=⟨Try.f74.name,by decide,Try.func74.trans (congrArg some (by kernel_rfl))⟩
 f13:=⟨Try.f75.name,by decide,Try.func75.trans (congrArg some (by kernel_rfl))⟩
 f14:=⟨Try.f76.name,by decide,Try.func76.trans (congrArg some (by kernel_rfl))⟩
 f15:=⟨Try.f77.name,by decide,Try.func77.trans (congrArg some (by kernel_rfl))⟩
 f16:=⟨Try.f78.name,by decide,Try.func78.trans (congrArg some (by kernel_rfl))⟩
 f17:=⟨Try.f79.name,by decide,Try.func79.trans (congrArg some (by kernel_rfl))⟩
 f18:=⟨Try.f80.name,by decide,Try.func80.trans (congrArg some (by kernel_rfl))⟩
 f19:=Try.func81.trans (congrArg some (by kernel_rfl))
 f20:=Try.func82.trans (congrArg some (by kernel_rfl))
 f30:=⟨Try.f91.name,by decide,Try.func91.trans (congrArg some (by kernel_rfl))⟩
 f31:=Try.func92.trans (congrArg some (by kernel_rfl))
 f32:=Try.func93.trans (congrArg some (by kernel_rfl))
 f33:=⟨Try.f94.name,by decide,Try.func94.trans (congrArg some (by kernel_rfl))⟩
 f34:=⟨Try.f95.name,by decide,Try.func95.trans (congrArg some (by kernel_rfl))⟩
 f35:=⟨Try.f46.name,by decide,Try.func46.trans (congrArg some (by kernel_rfl))⟩
 f40:=⟨Try.f99.name,by decide,Try.func99.trans (congrArg some (by kernel_rfl))⟩
 t0:=Try.underlying0
 a0:=Try.isAgg0
 z0:=Try.sizeOf0
 v0:=Try.zeroValue0
 t3:=Try.underlying3
 a3:=Try.isAgg3
 z3:=Try.sizeOf3
 v3:=Try.zeroValue3
 t4:=Try.underlying4
 a4:=Try.isAgg4
 z4:=Try.sizeOf4
 v4:=Try.zeroValue4
 t5:=Try.underlying5
 a5:=Try.isAgg5
 z5:=Try.sizeOf5
 v5:=Try.zeroValue5
 t9:=Try.underlying9
 a9:=Try.isAgg9
 z9:=Try.sizeOf9
 v9:=Try.zeroValue9
 t22:=Try.underlying22
 a22:=Try.isAgg22
 z22:=Try.sizeOf22
 v22:=Try.zeroValue22
 t23:=Try.underlying22
 a23:=Try.isAgg22
 z23:=Try.sizeOf22
 v23:=Try.zeroValue22
 t25:=Try.underlying3
 a25:=Try.isAgg3
 z25:=Try.sizeOf3
 v25:=Try.zeroValue3
 t32:=Try.underlying58
 a32:=Try.isAgg58
 z32:=Try.sizeOf58
 v32:=Try.zeroValue58
 t35:=Try.underlying101
 a35:=Try.isAgg101
 z35:=Try.sizeOf101
 v35:=Try.zeroValue101
 t36:=Try.underlying102
 a36:=Try.isAgg102
 z36:=Try.sizeOf102
 v36:=Try.zeroValue102
 t41:=Try.underlying45
 a41:=Try.isAgg45
 z41:=Try.sizeOf45
 v41:=Try.zeroValue45
 t44:=Try.underlying109
 a44:=Try.isAgg109
 z44:=Try.sizeOf109
 v44:=Try.zeroValue109
 t46:=Try.underlying111
 a46:=Try.isAgg111
 z46:=Try.sizeOf111
 v46:=Try.zeroValue111
 t53:=Try.underlying117
 a53:=Try.isAgg117
 z53:=Try.sizeOf117
 v53:=Try.zeroValue117
 t57:=Try.underlying121
 a57:=Try.isAgg121
 z57:=Try.sizeOf121
 v57:=Try.zeroValue121
 t63:=Try.underlying125
 a63:=Try.isAgg125
 z63:=Try.sizeOf125
 v63:=Try.zeroValue125
 t64:=Try.underlying126
 a64:=Try.isAgg126
 z64:=Try.sizeOf126
 v64:=Try.zeroValue126 }
def Try.lay67_ren:Go.Shelf.Ren:=⟨fun | 6=>67 | 15=>70 | 14=>71 | 28=>81 | 29=>82 | 20=>83 | 21=>84 | 22=>85 | 23=>86 | 24=>87 | 25=>88 | 26=>89 | 27=>90 | 46=>96 | 47=>92 | 48=>93 | 49=>97 | 50=>98 | 57=>100 | n=>n,fun | 22=>78 | 24=>91 | 25=>96 | 3=>3 | 39=>58 | 0=>0 | 53=>109 | 55=>111 | 4=>4 | 46=>102 | 45=>101 | 50=>45 | 5=>5 | 9=>9 | 66=>117 | 70=>121 | 76=>125 | 77=>126 | n=>n,fun | n=>n⟩
theorem Try.lay67:Go.Proofs.SlLaysF0.n6 Try.prog Try.lay67_ren:= {
 mixed:=by kernel_rfl
 f6:=⟨Try.f67.name,by decide,Try.func67.trans (congrArg some (by kernel_rfl))⟩
 f14:=⟨Try.f71.name,by decide,Try.func71.trans (congrArg some (by kernel_rfl))⟩
 f15:=Try.func70.trans (congrArg some (by kernel_rfl))
 f20:=⟨Try.f83.name,by decide,Try.func83.trans (congrArg some (by kernel_rfl))⟩
 f21:=⟨Try.f84.name,by decide,Try.func84.trans (congrArg some (by kernel_rfl))⟩
 f22:=⟨Try.f85.name,by decide,Try.func85.trans (congrArg some (by kernel_rfl))⟩
 f23:=⟨Try.f86.name,by decide,Try.func86.trans (congrArg some (by kernel_rfl))⟩
 f24:=⟨Try.f87.name,by decide,Try.func87.trans (congrArg some (by kernel_rfl))⟩
 f25:=⟨Try.f88.name,by decide,Try.func88.trans (congrArg some (by kernel_rfl))⟩
 f26:=⟨Try.f89.name,by decide,Try.func89.trans (congrArg some (by kernel_rfl))⟩
 f27:=⟨Try.f90.name,by decide,Try.func90.trans (congrArg some (by kernel_rfl))⟩
 f28:=Try.func81.trans (congrArg some (by kernel_rfl))
 f29:=Try.func82.trans (congrArg some (by kernel_rfl))
 f46:=⟨Try.f96.name,by decide,Try.func96.trans (congrArg some (by kernel_rfl))⟩
 f47:=Try.func92.trans (congrArg some (by kernel_rfl))
 f48:=Try.func93.trans (congrArg some (by kernel_rfl))
 f49:=⟨Try.f97.name,by decide,Try.func97.trans (congrArg some (by kernel_rfl))⟩
 f50:=⟨Try.f98.name,by decide,Try.func98.trans (congrArg some (by kernel_rfl))⟩
 f57:=⟨Try.f100.name,by decide,Try.func100.trans (congrArg some (by kernel_rfl))⟩
 t0:=Try.underlying0
 a0:=Try.isAgg0
 z0:=Try.sizeOf0
 v0:=Try.zeroValue0
 t3:=Try.underlying3
 a3:=Try.isAgg3
 z3:=Try.sizeOf3
 v3:=Try.zeroValue3
 t4:=Try.underlying4
 a4:=Try.isAgg4
 z4:=Try.sizeOf4
 v4:=Try.zeroValue4
 t5:=Try.underlying5
 a5:=Try.isAgg5
 z5:=Try.sizeOf5
 v5:=Try.zeroValue5
 t9:=Try.underlying9
 a9:=Try.isAgg9
 z9:=Try.sizeOf9
 v9:=Try.zeroValue9
 t22:=Try.underlying78
 a22:=Try.isAgg78
 z22:=Try.sizeOf78
 v22:=Try.zeroValue78
 t25:=Try.underlying96
 a25:=Try.isAgg96
 z25:=Try.sizeOf96
 v25:=Try.zeroValue96
 t39:=Try.underlying58
 a39:=Try.isAgg58
 z39:=Try.sizeOf58
 v39:=Try.zeroValue58
 t45:=Try.underlying101
 a45:=Try.isAgg101
 z45:=Try.sizeOf101
 v45:=Try.zeroValue101
 t46:=Try.underlying102
 a46:=Try.isAgg102
 z46:=Try.sizeOf102
 v46:=Try.zeroValue102
 t50:=Try.underlying45
 a50:=Try.isAgg45
 z50:=Try.sizeOf45
 v50:=Try.zeroValue45
 t53:=Try.underlying109
 a53:=Try.isAgg109
 z53:=Try.sizeOf109
 v53:=Try.zeroValue109
 t55:=Try.underlying111
 a55:=Try.isAgg111
 z55:=Try.sizeOf111
 v55:=Try.zeroValue111
 t66:=Try.underlying117
 a66:=Try.isAgg117
 z66:=Try.sizeOf117
 v66:=Try.zeroValue117
 t70:=Try.underlying121
 a70:=Try.isAgg121
 z70:=Try.sizeOf121
 v70:=Try.zeroValue121
 t76:=Try.underlying125
 a76:=Try.isAgg125
 z76:=Try.sizeOf125
 v76:=Try.zeroValue125
 t77:=Try.underlying126
 a77:=Try.isAgg126
 z77:=Try.sizeOf126
 v77:=Try.zeroValue126 }
end Go.Proofs
end

section
namespace Go.Ab
open Go.Proofs
theorem sortI_spec {x r:List Int} (h:sortI x=some r):FSpec Try.prog 65 [.v (.c (.own 0))] [(0,AO (α:=Int) x)] .any [(0,AO (α:=Int) r)]:=sortI_FSpec Try.lay65 h
theorem sortF_spec {x:List Span} {q:Span→Span→Option Int} {r:List Span} (h:sortF x q=some r):FSpec Try.prog 67 [.v (.c (.own 0)),.v (.c (.sem (CloOK Try.prog (FR_Span_Span_Int q))))] [(0,AO (α:=Span) x)] .any [(0,AO (α:=Span) r)]:=
 sortF_FSpec prog_lay Try.lay67 (fun _=>rfl) (te:=⟨.struct [(0,3),(1,3)],2,16,[.d (.int .i64 0),.d (.int .i64 0)]⟩) (by kernel_rfl) rfl rfl FR_Span_Span_Int (fun q x y z hq=>⟨x,y,z,hq,rfl,rfl⟩) h
end Go.Ab
end
