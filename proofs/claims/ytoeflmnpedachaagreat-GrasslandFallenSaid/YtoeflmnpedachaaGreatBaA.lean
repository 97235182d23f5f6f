/- The types of the program, its sorts and their contracts: no condition. -/
import Derived.Test.YtoeflmnpedachaaGreatPuB
import Derived.Test.YtoeflmnpedachaaGreatProg
import Derived.Shelf.SlGeneric
import Derived.Shelf.SortM.Plain
import Derived.Shelf.SortM.SortNone
import Derived.Shelf.SlSortCmp.WholeK
import Derived.Shelf.SlSortCmp.NoneTotal
import Derived.Shelf.Spec.SlicesGrow
import Derived.Shelf.SlIterI.Nil
import Derived.Shelf.SlIterI.Sorted
import Derived.Ground.SlgmProg
import Derived.Ground.SlsfProg
import Derived.Ground.Names8Prog
import Derived.Ground.GgzProg
import Derived.Test.YtoeflmnpedachaaGreatAbC
set_option linter.unusedVariables false
set_option linter.unusedSimpArgs false
section
namespace Go.Ab
open Go.Proofs
set_option linter.unusedVariables false
set_option maxRecDepth 100000
def TT : List (Nat × TI) := [
 (3, ⟨.int .i64, 1, 8, [.d (.int .i64 0)]⟩),
 (4, ⟨.bool, 1, 1, [.d (.bool false)]⟩),
 (5, ⟨.int .u8, 1, 1, [.d (.int .u8 0)]⟩),
 (9, ⟨.str, 1, 16, [.d (.str ByteArray.empty)]⟩),
 (22, ⟨.slice 3, 1, 24, [.fl 0 fun _ => []]⟩),
 (23, ⟨.other, 1, 8, [.d .any]⟩),
 (25, ⟨.slice 65, 1, 24, [.fl 0 fun _ => []]⟩),
 (27, ⟨.slice 67, 1, 24, [.fl 0 fun _ => []]⟩),
 (31, ⟨.slice 108, 1, 24, [.fl 0 fun _ => []]⟩),
 (33, ⟨.struct [(0, 31)], 1, 24, [.fl 0 fun _ => []]⟩),
 (35, ⟨.int .i64, 1, 8, [.d (.int .i64 0)]⟩),
 (51, ⟨.int .u32, 1, 4, [.d (.int .u32 0)]⟩),
 (65, ⟨.struct [(0, 9), (1, 3), (2, 3)], 3, 32, [.d (.str ByteArray.empty), .d (.int .i64 0), .d (.int .i64 0)]⟩),
 (67, ⟨.struct [(0, 3), (1, 3), (2, 33)], 3, 40, [.d (.int .i64 0), .d (.int .i64 0), .fl 0 fun _ => []]⟩),
 (69, ⟨.other, 1, 8, [.d .any]⟩),
 (71, ⟨.slice 33, 1, 24, [.fl 0 fun _ => []]⟩),
 (105, ⟨.struct [(0, 22), (1, 3)], 2, 32, [.fl 0 fun _ => [], .d (.int .i64 0)]⟩),
 (106, ⟨.slice 9, 1, 24, [.fl 0 fun _ => []]⟩),
 (108, ⟨.struct [(0, 3), (1, 3), (2, 3), (3, 3)], 4, 32, [.d (.int .i64 0), .d (.int .i64 0), .d (.int .i64 0), .d (.int .i64 0)]⟩),
 (111, ⟨.other, 1, 8, [.d .any]⟩),
 (113, ⟨.other, 1, 8, [.d .any]⟩),
 (116, ⟨.other, 1, 8, [.d .any]⟩),
 (119, ⟨.other, 1, 8, [.d .any]⟩),
 (121, ⟨.other, 1, 8, [.d .any]⟩),
 (125, ⟨.struct [(0, 27), (1, 25)], 2, 48, [.fl 0 fun _ => [], .fl 0 fun _ => []]⟩),
 (131, ⟨.int .u64, 1, 8, [.d (.int .u64 0)]⟩),
 (174, ⟨.other, 1, 8, [.d .any]⟩),
 (179, ⟨.slice 212, 1, 24, [.fl 0 fun _ => []]⟩),
 (182, ⟨.other, 1, 8, [.d .any]⟩),
 (193, ⟨.slice 31, 1, 24, [.fl 0 fun _ => []]⟩),
 (207, ⟨.slice 209, 1, 24, [.fl 0 fun _ => []]⟩),
 (209, ⟨.struct [(0, 3), (1, 3), (2, 179)], 3, 40, [.d (.int .i64 0), .d (.int .i64 0), .fl 0 fun _ => []]⟩),
 (212, ⟨.struct [(0, 3), (1, 3)], 2, 16, [.d (.int .i64 0), .d (.int .i64 0)]⟩),
 (217, ⟨.other, 1, 8, [.d .any]⟩),
 (242, ⟨.slice 179, 1, 24, [.fl 0 fun _ => []]⟩),
 (245, ⟨.other, 1, 8, [.d .any]⟩)]
theorem TTok : TT.map (fun p => layOf Tryz.prog p.1) = TT.map (fun p => some p.2) := by kernel_rfl
theorem prog_lay : LOk Tryz.prog (tblL TT) := tbl_ok TTok
theorem prog_mixed : Tryz.prog.follows .mixedOrders = true := by kernel_rfl
theorem eqT108 : EqT Tryz.prog 108 := ⟨by kernel_rfl, by kernel_rfl, by kernel_rfl⟩
theorem eqT212 : EqT Tryz.prog 212 := ⟨by kernel_rfl, by kernel_rfl, by kernel_rfl⟩
theorem slT22 : slT (tblL TT) 22 ⟨.int .i64, 1, 8, [.d (.int .i64 0)]⟩ := ⟨⟨.slice 3, 1, 24, [.fl 0 fun _ => []]⟩, 3, by kernel_rfl, by kernel_rfl, by kernel_rfl⟩
theorem slT27 : slT (tblL TT) 27 ⟨.struct [(0, 3), (1, 3), (2, 33)], 3, 40, [.d (.int .i64 0), .d (.int .i64 0), .fl 0 fun _ => []]⟩ := ⟨⟨.slice 67, 1, 24, [.fl 0 fun _ => []]⟩, 67, by kernel_rfl, by kernel_rfl, by kernel_rfl⟩
end Go.Ab
end

section
namespace Go.Proofs
open Go.Shelf
def Tryz.lay145_ren : Go.Shelf.Ren := ⟨fun | 5 => 145 | 8 => 184 | 7 => 216 | 19 => 245 | 20 => 246 | 10 => 253 | 11 => 254 | 12 => 255 | 13 => 256 | 14 => 257 | 15 => 258 | 16 => 259 | 17 => 260 | 18 => 261 | 30 => 277 | 31 => 272 | 32 => 273 | 33 => 278 | 34 => 279 | 35 => 247 | 40 => 300 | n => n, fun | 23 => 22 | 25 => 3 | 3 => 3 | 32 => 186 | 22 => 22 | 0 => 0 | 44 => 51 | 46 => 131 | 4 => 4 | 36 => 220 | 35 => 219 | 41 => 158 | 5 => 5 | 9 => 9 | 53 => 247 | 57 => 251 | 63 => 269 | 64 => 129 | n => n, fun | n => n⟩
theorem Tryz.lay145 : Go.Proofs.SlLaysM.n5 Tryz.prog Tryz.lay145_ren := {
 mixed := by kernel_rfl
 f5 := ⟨Tryz.f145.name, by decide, Tryz.func145.trans (congrArg some (by kernel_rfl))⟩
 f7 := ⟨Tryz.f216.name, by decide, Tryz.func216.trans (congrArg some (by kernel_rfl))⟩
 f8 := Tryz.func184.trans (congrArg some (by kernel_rfl))
 f10 := ⟨Tryz.f253.name, by decide, Tryz.func253.trans (congrArg some (by kernel_rfl))⟩
 f11 := ⟨Tryz.f254.name, by decide, Tryz.func254.trans (congrArg some (by kernel_rfl))⟩
 f12 := ⟨Tryz.f255.name, by decide, Tryz.func255.trans (congrArg some (by kernel_rfl))⟩
 f13 := ⟨Tryz.f256.name, by decide, Tryz.func256.trans (congrArg some (by kernel_rfl))⟩
 f14 := ⟨Tryz.f257.name, by decide, Tryz.func257.trans (congrArg some (by kernel_rfl))⟩
 f15 := ⟨Tryz.f258.name, by decide, Tryz.func258.trans (congrArg some (by kernel_rfl))⟩
 f16 := ⟨Tryz.f259.name, by decide, Tryz.func259.trans (congrArg some (by kernel_rfl))⟩
 f17 := ⟨Tryz.f260.name, by decide, Tryz.func260.trans (congrArg some (by kernel_rfl))⟩
 f18 := ⟨Tryz.f261.name, by decide, Tryz.func261.trans (congrArg some (by kernel_rfl))⟩
 f19 := Tryz.func245.trans (congrArg some (by kernel_rfl))
 f20 := Tryz.func246.trans (congrArg some (by kernel_rfl))
 f30 := ⟨Tryz.f277.name, by decide, Tryz.func277.trans (congrArg some (by kernel_rfl))⟩
 f31 := Tryz.func272.trans (congrArg some (by kernel_rfl))
 f32 := Tryz.func273.trans (congrArg some (by kernel_rfl))
 f33 := ⟨Tryz.f278.name, by decide, Tryz.func278.trans (congrArg some (by kernel_rfl))⟩
 f34 := ⟨Tryz.f279.name, by decide, Tryz.func279.trans (congrArg some (by kernel_rfl))⟩
 f35 := ⟨Tryz.f247.name, by decide, Tryz.func247.trans (congrArg some (by kernel_rfl))⟩
 f40 := ⟨Tryz.f300.name, by decide, Tryz.func300.trans (congrArg some (by kernel_rfl))⟩
 t0 := Tryz.underlying0
 a0 := Tryz.isAgg0
 z0 := Tryz.sizeOf0
 v0 := Tryz.zeroValue0
 t3 := Tryz.underlying3
 a3 := Tryz.isAgg3
 z3 := Tryz.sizeOf3
 v3 := Tryz.zeroValue3
 t4 := Tryz.underlying4
 a4 := Tryz.isAgg4
 z4 := Tryz.sizeOf4
 v4 := Tryz.zeroValue4
 t5 := Tryz.underlying5
 a5 := Tryz.isAgg5
 z5 := Tryz.sizeOf5
 v5 := Tryz.zeroValue5
 t9 := Tryz.underlying9
 a9 := Tryz.isAgg9
 z9 := Tryz.sizeOf9
 v9 := Tryz.zeroValue9
 t22 := Tryz.underlying22
 a22 := Tryz.isAgg22
 z22 := Tryz.sizeOf22
 v22 := Tryz.zeroValue22
 t23 := Tryz.underlying22
 a23 := Tryz.isAgg22
 z23 := Tryz.sizeOf22
 v23 := Tryz.zeroValue22
 t25 := Tryz.underlying3
 a25 := Tryz.isAgg3
 z25 := Tryz.sizeOf3
 v25 := Tryz.zeroValue3
 t32 := Tryz.underlying186
 a32 := Tryz.isAgg186
 z32 := Tryz.sizeOf186
 v32 := Tryz.zeroValue186
 t35 := Tryz.underlying219
 a35 := Tryz.isAgg219
 z35 := Tryz.sizeOf219
 v35 := Tryz.zeroValue219
 t36 := Tryz.underlying220
 a36 := Tryz.isAgg220
 z36 := Tryz.sizeOf220
 v36 := Tryz.zeroValue220
 t41 := Tryz.underlying158
 a41 := Tryz.isAgg158
 z41 := Tryz.sizeOf158
 v41 := Tryz.zeroValue158
 t44 := Tryz.underlying51
 a44 := Tryz.isAgg51
 z44 := Tryz.sizeOf51
 v44 := Tryz.zeroValue51
 t46 := Tryz.underlying131
 a46 := Tryz.isAgg131
 z46 := Tryz.sizeOf131
 v46 := Tryz.zeroValue131
 t53 := Tryz.underlying247
 a53 := Tryz.isAgg247
 z53 := Tryz.sizeOf247
 v53 := Tryz.zeroValue247
 t57 := Tryz.underlying251
 a57 := Tryz.isAgg251
 z57 := Tryz.sizeOf251
 v57 := Tryz.zeroValue251
 t63 := Tryz.underlying269
 a63 := Tryz.isAgg269
 z63 := Tryz.sizeOf269
 v63 := Tryz.zeroValue269
 t64 := Tryz.underlying129
 a64 := Tryz.isAgg129
 z64 := Tryz.sizeOf129
 v64 := Tryz.zeroValue129 }
def Tryz.lay235_ren : Go.Shelf.Ren := ⟨fun | 6 => 235 | 15 => 184 | 14 => 270 | 28 => 245 | 29 => 246 | 20 => 291 | 21 => 292 | 22 => 293 | 23 => 294 | 24 => 295 | 25 => 296 | 26 => 297 | 27 => 298 | 46 => 304 | 47 => 272 | 48 => 273 | 49 => 305 | 50 => 306 | 57 => 308 | n => n, fun | 22 => 179 | 24 => 212 | 25 => 217 | 3 => 3 | 39 => 186 | 0 => 0 | 53 => 51 | 55 => 131 | 4 => 4 | 46 => 220 | 45 => 219 | 50 => 158 | 5 => 5 | 9 => 9 | 66 => 247 | 70 => 251 | 76 => 269 | 77 => 129 | n => n, fun | n => n⟩
theorem Tryz.lay235 : Go.Proofs.SlLaysF0.n6 Tryz.prog Tryz.lay235_ren := {
 mixed := by kernel_rfl
 f6 := ⟨Tryz.f235.name, by decide, Tryz.func235.trans (congrArg some (by kernel_rfl))⟩
 f14 := ⟨Tryz.f270.name, by decide, Tryz.func270.trans (congrArg some (by kernel_rfl))⟩
 f15 := Tryz.func184.trans (congrArg some (by kernel_rfl))
 f20 := ⟨Tryz.f291.name, by decide, Tryz.func291.trans (congrArg some (by kernel_rfl))⟩
 f21 := ⟨Tryz.f292.name, by decide, Tryz.func292.trans (congrArg some (by kernel_rfl))⟩
 f22 := ⟨Tryz.f293.name, by decide, Tryz.func293.trans (congrArg some (by kernel_rfl))⟩
 f23 := ⟨Tryz.f294.name, by decide, Tryz.func294.trans (congrArg some (by kernel_rfl))⟩
 f24 := ⟨Tryz.f295.name, by decide, Tryz.func295.trans (congrArg some (by kernel_rfl))⟩
 f25 := ⟨Tryz.f296.name, by decide, Tryz.func296.trans (congrArg some (by kernel_rfl))⟩
 f26 := ⟨Tryz.f297.name, by decide, Tryz.func297.trans (congrArg some (by kernel_rfl))⟩
 f27 := ⟨Tryz.f298.name, by decide, Tryz.func298.trans (congrArg some (by kernel_rfl))⟩
 f28 := Tryz.func245.trans (congrArg some (by kernel_rfl))
 f29 := Tryz.func246.trans (congrArg some (by kernel_rfl))
 f46 := ⟨Tryz.f304.name, by decide, Tryz.func304.trans (congrArg some (by kernel_rfl))⟩
 f47 := Tryz.func272.trans (congrArg some (by kernel_rfl))
 f48 := Tryz.func273.trans (congrArg some (by kernel_rfl))
 f49 := ⟨Tryz.f305.name, by decide, Tryz.func305.trans (congrArg some (by kernel_rfl))⟩
 f50 := ⟨Tryz.f306.name, by decide, Tryz.func306.trans (congrArg some (by kernel_rfl))⟩
 f57 := ⟨Tryz.f308.name, by decide, Tryz.func308.trans (congrArg some (by kernel_rfl))⟩
 t0 := Tryz.underlying0
 a0 := Tryz.isAgg0
 z0 := Tryz.sizeOf0
 v0 := Tryz.zeroValue0
 t3 := Tryz.underlying3
 a3 := Tryz.isAgg3
 z3 := Tryz.sizeOf3
 v3 := Tryz.zeroValue3
 t4 := Tryz.underlying4
 a4 := Tryz.isAgg4
 z4 := Tryz.sizeOf4
 v4 := Tryz.zeroValue4
 t5 := Tryz.underlying5
 a5 := Tryz.isAgg5
 z5 := Tryz.sizeOf5
 v5 := Tryz.zeroValue5
 t9 := Tryz.underlying9
 a9 := Tryz.isAgg9
 z9 := Tryz.sizeOf9
 v9 := Tryz.zeroValue9
 t22 := Tryz.underlying179
 a22 := Tryz.isAgg179
 z22 := Tryz.sizeOf179
 v22 := Tryz.zeroValue179
 t25 := Tryz.underlying217
 a25 := Tryz.isAgg217
 z25 := Tryz.sizeOf217
 v25 := Tryz.zeroValue217
 t39 := Tryz.underlying186
 a39 := Tryz.isAgg186
 z39 := Tryz.sizeOf186
 v39 := Tryz.zeroValue186
 t45 := Tryz.underlying219
 a45 := Tryz.isAgg219
 z45 := Tryz.sizeOf219
 v45 := Tryz.zeroValue219
 t46 := Tryz.underlying220
 a46 := Tryz.isAgg220
 z46 := Tryz.sizeOf220
 v46 := Tryz.zeroValue220
 t50 := Tryz.underlying158
 a50 := Tryz.isAgg158
 z50 := Tryz.sizeOf158
 v50 := Tryz.zeroValue158
 t53 := Tryz.underlying51
 a53 := Tryz.isAgg51
 z53 := Tryz.sizeOf51
 v53 := Tryz.zeroValue51
 t55 := Tryz.underlying131
 a55 := Tryz.isAgg131
 z55 := Tryz.sizeOf131
 v55 := Tryz.zeroValue131
 t66 := Tryz.underlying247
 a66 := Tryz.isAgg247
 z66 := Tryz.sizeOf247
 v66 := Tryz.zeroValue247
 t70 := Tryz.underlying251
 a70 := Tryz.isAgg251
 z70 := Tryz.sizeOf251
 v70 := Tryz.zeroValue251
 t76 := Tryz.underlying269
 a76 := Tryz.isAgg269
 z76 := Tryz.sizeOf269
 v76 := Tryz.zeroValue269
 t77 := Tryz.underlying129
 a77 := Tryz.isAgg129
 z77 := Tryz.sizeOf129
 v77 := Tryz.zeroValue129 }
def Tryz.lay267_ren : Go.Shelf.Ren := ⟨fun | 4 => 267 | n => n, fun | 22 => 179 | 25 => 212 | 3 => 3 | 4 => 4 | 9 => 9 | 20 => 20 | 0 => 0 | 2 => 3 | n => n, fun | n => n⟩
theorem Tryz.lay267 : Go.Proofs.Lays8.n4 Tryz.prog Tryz.lay267_ren := {
 mixed := by kernel_rfl
 f4 := ⟨Tryz.f267.name, by decide, Tryz.func267.trans (congrArg some (by kernel_rfl))⟩
 t0 := Tryz.underlying0
 a0 := Tryz.isAgg0
 z0 := Tryz.sizeOf0
 v0 := Tryz.zeroValue0
 t3 := Tryz.underlying3
 a3 := Tryz.isAgg3
 z3 := Tryz.sizeOf3
 v3 := Tryz.zeroValue3
 t4 := Tryz.underlying4
 a4 := Tryz.isAgg4
 z4 := Tryz.sizeOf4
 v4 := Tryz.zeroValue4
 t9 := Tryz.underlying9
 a9 := Tryz.isAgg9
 z9 := Tryz.sizeOf9
 v9 := Tryz.zeroValue9
 t20 := Tryz.underlying20
 a20 := Tryz.isAgg20
 z20 := Tryz.sizeOf20
 v20 := Tryz.zeroValue20
 t22 := Tryz.underlying179
 a22 := Tryz.isAgg179
 z22 := Tryz.sizeOf179
 v22 := Tryz.zeroValue179 }
end Go.Proofs
end

section
namespace Go.Ab
open Go.Proofs
theorem sortI_spec {x r : List Int} (h : sortI x = some r) : FSpec Tryz.prog 145 [.v (.c (.own 0))] [(0, AO (α := Int) x)] .any [(0, AO (α := Int) r)] := sortI_FSpec Tryz.lay145 h
theorem sortF_spec {x : List Span} {q : Span → Span → Option Int} {r : List Span} (h : sortF x q = some r) : FSpec Tryz.prog 235 [.v (.c (.own 0)), .v (.c (.sem (CloOK Tryz.prog (FR_Span_Span_Int q))))] [(0, AO (α := Span) x)] .any [(0, AO (α := Span) r)] :=
 sortF_FSpec prog_lay Tryz.lay235 (fun _ => rfl) (te := ⟨.struct [(0, 3), (1, 3)], 2, 16, [.d (.int .i64 0), .d (.int .i64 0)]⟩) (by kernel_rfl) rfl rfl FR_Span_Span_Int (fun q x y z hq => ⟨x, y, z, hq, rfl, rfl⟩) h
theorem growN_spec {n : Int} {r : List Span} (h : growN n = some r) : FSpec Tryz.prog 267 [.v (.c (.fl 0 fun _ => [])), vi n] [] (.v (.c (.own 100))) [(100, AO (α := Span) r)] :=
 growN_FSpec prog_lay Tryz.lay267 (te := ⟨.struct [(0, 3), (1, 3)], 2, 16, [.d (.int .i64 0), .d (.int .i64 0)]⟩) (by kernel_rfl) rfl (by decide) (by decide) rfl h
end Go.Ab
end
