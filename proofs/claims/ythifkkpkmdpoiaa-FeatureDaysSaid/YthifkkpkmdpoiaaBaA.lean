/- The types of the program, its sorts and their contracts: no condition. -/
import Derived.Test.YthifkkpkmdpoiaaPuB
import Derived.Test.YthifkkpkmdpoiaaProg
import Derived.Shelf.SortM.Plain
import Derived.Shelf.SortM.SortNone
import Derived.Shelf.SlSortCmp.WholeK
import Derived.Shelf.SlSortCmp.NoneTotal
import Derived.Ground.SlgmProg
import Derived.Ground.SlsfProg
set_option linter.unusedVariables false
set_option linter.unusedSimpArgs false
section
namespace Go.Ab
open Go.Proofs
set_option linter.unusedVariables false
set_option maxRecDepth 100000
def TT : List (Nat × TI) := [
 (3, ⟨.int .i64, 1, 8, [.d (.int .i64 0)]⟩),
 (4, ⟨.bool, 1, 1, [.d (.bool false)]⟩),
 (5, ⟨.int .u8, 1, 1, [.d (.int .u8 0)]⟩),
 (22, ⟨.slice 3, 1, 24, [.fl 0 fun _ => []]⟩),
 (23, ⟨.slice 32, 1, 24, [.fl 0 fun _ => []]⟩),
 (24, ⟨.other, 1, 8, [.d .any]⟩),
 (28, ⟨.slice 51, 1, 24, [.fl 0 fun _ => []]⟩),
 (30, ⟨.struct [(0, 28)], 1, 24, [.fl 0 fun _ => []]⟩),
 (32, ⟨.struct [(0, 3), (1, 3), (2, 3), (3, 3), (4, 30)], 5, 56, [.d (.int .i64 0), .d (.int .i64 0), .d (.int .i64 0), .d (.int .i64 0), .fl 0 fun _ => []]⟩),
 (33, ⟨.int .i64, 1, 8, [.d (.int .i64 0)]⟩),
 (45, ⟨.struct [(0, 22), (1, 3)], 2, 32, [.fl 0 fun _ => [], .d (.int .i64 0)]⟩),
 (51, ⟨.struct [(0, 3), (1, 3), (2, 3), (3, 3)], 4, 32, [.d (.int .i64 0), .d (.int .i64 0), .d (.int .i64 0), .d (.int .i64 0)]⟩),
 (54, ⟨.other, 1, 8, [.d .any]⟩),
 (61, ⟨.other, 1, 8, [.d .any]⟩),
 (63, ⟨.other, 1, 8, [.d .any]⟩),
 (69, ⟨.int .u64, 1, 8, [.d (.int .u64 0)]⟩),
 (79, ⟨.other, 1, 8, [.d .any]⟩),
 (89, ⟨.slice 113, 1, 24, [.fl 0 fun _ => []]⟩),
 (91, ⟨.other, 1, 8, [.d .any]⟩),
 (104, ⟨.slice 28, 1, 24, [.fl 0 fun _ => []]⟩),
 (108, ⟨.slice 110, 1, 24, [.fl 0 fun _ => []]⟩),
 (110, ⟨.struct [(0, 3), (1, 3), (2, 89)], 3, 40, [.d (.int .i64 0), .d (.int .i64 0), .fl 0 fun _ => []]⟩),
 (113, ⟨.struct [(0, 3), (1, 3)], 2, 16, [.d (.int .i64 0), .d (.int .i64 0)]⟩),
 (117, ⟨.other, 1, 8, [.d .any]⟩)]
theorem TTok : TT.map (fun p => layOf Try.prog p.1) = TT.map (fun p => some p.2) := by kernel_rfl
theorem prog_lay : LOk Try.prog (tblL TT) := tbl_ok TTok
theorem prog_mixed : Try.prog.follows .mixedOrders = true := by kernel_rfl
theorem eqT51 : EqT Try.prog 51 := ⟨by kernel_rfl, by kernel_rfl, by kernel_rfl⟩
theorem eqT113 : EqT Try.prog 113 := ⟨by kernel_rfl, by kernel_rfl, by kernel_rfl⟩
theorem slT22 : slT (tblL TT) 22 ⟨.int .i64, 1, 8, [.d (.int .i64 0)]⟩ := ⟨⟨.slice 3, 1, 24, [.fl 0 fun _ => []]⟩, 3, by kernel_rfl, by kernel_rfl, by kernel_rfl⟩
theorem slT23 : slT (tblL TT) 23 ⟨.struct [(0, 3), (1, 3), (2, 3), (3, 3), (4, 30)], 5, 56, [.d (.int .i64 0), .d (.int .i64 0), .d (.int .i64 0), .d (.int .i64 0), .fl 0 fun _ => []]⟩ := ⟨⟨.slice 32, 1, 24, [.fl 0 fun _ => []]⟩, 32, by kernel_rfl, by kernel_rfl, by kernel_rfl⟩
end Go.Ab
end

section
namespace Go.Proofs
open Go.Shelf
def Try.lay40_ren : Go.Shelf.Ren := ⟨fun | 5 => 40 | 8 => 54 | 7 => 53 | 19 => 72 | 20 => 73 | 10 => 63 | 11 => 64 | 12 => 65 | 13 => 66 | 14 => 67 | 15 => 68 | 16 => 69 | 17 => 70 | 18 => 71 | 30 => 84 | 31 => 85 | 32 => 86 | 33 => 87 | 34 => 88 | 35 => 45 | 40 => 90 | n => n, fun | 23 => 22 | 25 => 3 | 3 => 3 | 32 => 69 | 22 => 22 | 0 => 0 | 44 => 101 | 46 => 103 | 4 => 4 | 36 => 94 | 35 => 93 | 41 => 52 | 5 => 5 | 9 => 9 | 53 => 118 | 57 => 122 | 63 => 125 | 64 => 126 | n => n, fun | n => n⟩
theorem Try.lay40 : Go.Proofs.SlLaysM.n5 Try.prog Try.lay40_ren := {
 mixed := by kernel_rfl
 f5 := ⟨Try.f40.name, by decide, Try.func40.trans (congrArg some (by kernel_rfl))⟩
 f7 := ⟨Try.f53.name, by decide, Try.func53.trans (congrArg some (by kernel_rfl))⟩
 f8 := Try.func54.trans (congrArg some (by kernel_rfl))
 f10 := ⟨Try.f63.name, by decide, Try.func63.trans (congrArg some (by kernel_rfl))⟩
 f11 := ⟨Try.f64.name, by decide, Try.func64.trans (congrArg some (by kernel_rfl))⟩
 f12 := ⟨Try.f65.name, by decide, Try.func65.trans (congrArg some (by kernel_rfl))⟩
 f13 := ⟨Try.f66.name, by decide, Try.func66.trans (congrArg some (by kernel_rfl))⟩
 f14 := ⟨Try.f67.name, by decide, Try.func67.trans (congrArg some (by kernel_rfl))⟩
 f15 := ⟨Try.f68.name, by decide, Try.func68.trans (congrArg some (by kernel_rfl))⟩
 f16 := ⟨Try.f69.name, by decide, Try.func69.trans (congrArg some (by kernel_rfl))⟩
 f17 := ⟨Try.f70.name, by decide, Try.func70.trans (congrArg some (by kernel_rfl))⟩
 f18 := ⟨Try.f71.name, by decide, Try.func71.trans (congrArg some (by kernel_rfl))⟩
 f19 := Try.func72.trans (congrArg some (by kernel_rfl))
 f20 := Try.func73.trans (congrArg some (by kernel_rfl))
 f30 := ⟨Try.f84.name, by decide, Try.func84.trans (congrArg some (by kernel_rfl))⟩
 f31 := Try.func85.trans (congrArg some (by kernel_rfl))
 f32 := Try.func86.trans (congrArg some (by kernel_rfl))
 f33 := ⟨Try.f87.name, by decide, Try.func87.trans (congrArg some (by kernel_rfl))⟩
 f34 := ⟨Try.f88.name, by decide, Try.func88.trans (congrArg some (by kernel_rfl))⟩
 f35 := ⟨Try.f45.name, by decide, Try.func45.trans (congrArg some (by kernel_rfl))⟩
 f40 := ⟨Try.f90.name, by decide, Try.func90.trans (congrArg some (by kernel_rfl))⟩
 t0 := Try.underlying0
 a0 := Try.isAgg0
 z0 := Try.sizeOf0
 v0 := Try.zeroValue0
 t3 := Try.underlying3
 a3 := Try.isAgg3
 z3 := Try.sizeOf3
 v3 := Try.zeroValue3
 t4 := Try.underlying4
 a4 := Try.isAgg4
 z4 := Try.sizeOf4
 v4 := Try.zeroValue4
 t5 := Try.underlying5
 a5 := Try.isAgg5
 z5 := Try.sizeOf5
 v5 := Try.zeroValue5
 t9 := Try.underlying9
 a9 := Try.isAgg9
 z9 := Try.sizeOf9
 v9 := Try.zeroValue9
 t22 := Try.underlying22
 a22 := Try.isAgg22
 z22 := Try.sizeOf22
 v22 := Try.zeroValue22
 t23 := Try.underlying22
 a23 := Try.isAgg22
 z23 := Try.sizeOf22
 v23 := Try.zeroValue22
 t25 := Try.underlying3
 a25 := Try.isAgg3
 z25 := Try.sizeOf3
 v25 := Try.zeroValue3
 t32 := Try.underlying69
 a32 := Try.isAgg69
 z32 := Try.sizeOf69
 v32 := Try.zeroValue69
 t35 := Try.underlying93
 a35 := Try.isAgg93
 z35 := Try.sizeOf93
 v35 := Try.zeroValue93
 t36 := Try.underlying94
 a36 := Try.isAgg94
 z36 := Try.sizeOf94
 v36 := Try.zeroValue94
 t41 := Try.underlying52
 a41 := Try.isAgg52
 z41 := Try.sizeOf52
 v41 := Try.zeroValue52
 t44 := Try.underlying101
 a44 := Try.isAgg101
 z44 := Try.sizeOf101
 v44 := Try.zeroValue101
 t46 := Try.underlying103
 a46 := Try.isAgg103
 z46 := Try.sizeOf103
 v46 := Try.zeroValue103
 t53 := Try.underlying118
 a53 := Try.isAgg118
 z53 := Try.sizeOf118
 v53 := Try.zeroValue118
 t57 := Try.underlying122
 a57 := Try.isAgg122
 z57 := Try.sizeOf122
 v57 := Try.zeroValue122
 t63 := Try.underlying125
 a63 := Try.isAgg125
 z63 := Try.sizeOf125
 v63 := Try.zeroValue125
 t64 := Try.underlying126
 a64 := Try.isAgg126
 z64 := Try.sizeOf126
 v64 := Try.zeroValue126 }
def Try.lay82_ren : Go.Shelf.Ren := ⟨fun | 6 => 82 | 15 => 54 | 14 => 89 | 28 => 72 | 29 => 73 | 20 => 91 | 21 => 92 | 22 => 93 | 23 => 94 | 24 => 95 | 25 => 96 | 26 => 97 | 27 => 98 | 46 => 99 | 47 => 85 | 48 => 86 | 49 => 100 | 50 => 101 | 57 => 102 | n => n, fun | 22 => 89 | 24 => 113 | 25 => 117 | 3 => 3 | 39 => 69 | 0 => 0 | 53 => 101 | 55 => 103 | 4 => 4 | 46 => 94 | 45 => 93 | 50 => 52 | 5 => 5 | 9 => 9 | 66 => 118 | 70 => 122 | 76 => 125 | 77 => 126 | n => n, fun | n => n⟩
theorem Try.lay82 : Go.Proofs.SlLaysF0.n6 Try.prog Try.lay82_ren := {
 mixed := by kernel_rfl
 f6 := ⟨Try.f82.name, by decide, Try.func82.trans (congrArg some (by kernel_rfl))⟩
 f14 := ⟨Try.f89.name, by decide, Try.func89.trans (congrArg some (by kernel_rfl))⟩
 f15 := Try.func54.trans (congrArg some (by kernel_rfl))
 f20 := ⟨Try.f91.name, by decide, Try.func91.trans (congrArg some (by kernel_rfl))⟩
 f21 := ⟨Try.f92.name, by decide, Try.func92.trans (congrArg some (by kernel_rfl))⟩
 f22 := ⟨Try.f93.name, by decide, Try.func93.trans (congrArg some (by kernel_rfl))⟩
 f23 := ⟨Try.f94.name, by decide, Try.func94.trans (congrArg some (by kernel_rfl))⟩
 f24 := ⟨Try.f95.name, by decide, Try.func95.trans (congrArg some (by kernel_rfl))⟩
 f25 := ⟨Try.f96.name, by decide, Try.func96.trans (congrArg some (by kernel_rfl))⟩
 f26 := ⟨Try.f97.name, by decide, Try.func97.trans (congrArg some (by kernel_rfl))⟩
 f27 := ⟨Try.f98.name, by decide, Try.func98.trans (congrArg some (by kernel_rfl))⟩
 f28 := Try.func72.trans (congrArg some (by kernel_rfl))
 f29 := Try.func73.trans (congrArg some (by kernel_rfl))
 f46 := ⟨Try.f99.name, by decide, Try.func99.trans (congrArg some (by kernel_rfl))⟩
 f47 := Try.func85.trans (congrArg some (by kernel_rfl))
 f48 := Try.func86.trans (congrArg some (by kernel_rfl))
 f49 := ⟨Try.f100.name, by decide, Try.func100.trans (congrArg some (by kernel_rfl))⟩
 f50 := ⟨Try.f101.name, by decide, Try.func101.trans (congrArg some (by kernel_rfl))⟩
 f57 := ⟨Try.f102.name, by decide, Try.func102.trans (congrArg some (by kernel_rfl))⟩
 t0 := Try.underlying0
 a0 := Try.isAgg0
 z0 := Try.sizeOf0
 v0 := Try.zeroValue0
 t3 := Try.underlying3
 a3 := Try.isAgg3
 z3 := Try.sizeOf3
 v3 := Try.zeroValue3
 t4 := Try.underlying4
 a4 := Try.isAgg4
 z4 := Try.sizeOf4
 v4 := Try.zeroValue4
 t5 := Try.underlying5
 a5 := Try.isAgg5
 z5 := Try.sizeOf5
 v5 := Try.zeroValue5
 t9 := Try.underlying9
 a9 := Try.isAgg9
 z9 := Try.sizeOf9
 v9 := Try.zeroValue9
 t22 := Try.underlying89
 a22 := Try.isAgg89
 z22 := Try.sizeOf89
 v22 := Try.zeroValue89
 t25 := Try.underlying117
 a25 := Try.isAgg117
 z25 := Try.sizeOf117
 v25 := Try.zeroValue117
 t39 := Try.underlying69
 a39 := Try.isAgg69
 z39 := Try.sizeOf69
 v39 := Try.zeroValue69
 t45 := Try.underlying93
 a45 := Try.isAgg93
 z45 := Try.sizeOf93
 v45 := Try.zeroValue93
 t46 := Try.underlying94
 a46 := Try.isAgg94
 z46 := Try.sizeOf94
 v46 := Try.zeroValue94
 t50 := Try.underlying52
 a50 := Try.isAgg52
 z50 := Try.sizeOf52
 v50 := Try.zeroValue52
 t53 := Try.underlying101
 a53 := Try.isAgg101
 z53 := Try.sizeOf101
 v53 := Try.zeroValue101
 t55 := Try.underlying103
 a55 := Try.isAgg103
 z55 := Try.sizeOf103
 v55 := Try.zeroValue103
 t66 := Try.underlying118
 a66 := Try.isAgg118
 z66 := Try.sizeOf118
 v66 := Try.zeroValue118
 t70 := Try.underlying122
 a70 := Try.isAgg122
 z70 := Try.sizeOf122
 v70 := Try.zeroValue122
 t76 := Try.underlying125
 a76 := Try.isAgg125
 z76 := Try.sizeOf125
 v76 := Try.zeroValue125
 t77 := Try.underlying126
 a77 := Try.isAgg126
 z77 := Try.sizeOf126
 v77 := Try.zeroValue126 }
end Go.Proofs
end
