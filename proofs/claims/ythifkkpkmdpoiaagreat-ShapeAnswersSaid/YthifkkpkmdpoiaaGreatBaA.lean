/- The types of the program, its sorts and their contracts: no condition. -/
import Derived.Test.YthifkkpkmdpoiaaGreatPuB
import Derived.Test.YthifkkpkmdpoiaaGreatProg
import Derived.Shelf.SlGeneric
import Derived.Shelf.SortM.Plain
import Derived.Shelf.SortM.SortNone
import Derived.Shelf.SlSortCmp.WholeK
import Derived.Shelf.SlSortCmp.NoneTotal
import Derived.Shelf.Spec.SlicesGrow
import Derived.Ground.SlgmProg
import Derived.Ground.SlsfProg
import Derived.Ground.Names8Prog
import Derived.Test.YthifkkpkmdpoiaaGreatAbC
set_option linter.unusedVariables false
set_option linter.unusedSimpArgs false
section
namespace Go.Ab
open Go.Proofs
set_option linter.unusedVariables false
set_option maxRecDepth 100000
def TT : List (Nat × TI) := [
 (3, ⟨.int .i64, 1, 8, [.d (.int .i64 0)]⟩),
 (4, ⟨.bool, 1, 1, [.d (.bool false)]⟩),
 (5, ⟨.int .u8, 1, 1, [.d (.int .u8 0)]⟩),
 (9, ⟨.str, 1, 16, [.d (.str ByteArray.empty)]⟩),
 (22, ⟨.slice 3, 1, 24, [.fl 0 fun _ => []]⟩),
 (23, ⟨.slice 73, 1, 24, [.fl 0 fun _ => []]⟩),
 (25, ⟨.struct [(0, 23)], 1, 24, [.fl 0 fun _ => []]⟩),
 (26, ⟨.other, 1, 8, [.d .any]⟩),
 (29, ⟨.slice 25, 1, 24, [.fl 0 fun _ => []]⟩),
 (30, ⟨.int .i64, 1, 8, [.d (.int .i64 0)]⟩),
 (33, ⟨.other, 1, 8, [.d .any]⟩),
 (45, ⟨.slice 49, 1, 24, [.fl 0 fun _ => []]⟩),
 (49, ⟨.struct [(0, 3), (1, 3), (2, 3), (3, 3), (4, 25)], 5, 56, [.d (.int .i64 0), .d (.int .i64 0), .d (.int .i64 0), .d (.int .i64 0), .fl 0 fun _ => []]⟩),
 (53, ⟨.slice 107, 1, 24, [.fl 0 fun _ => []]⟩),
 (55, ⟨.slice 109, 1, 24, [.fl 0 fun _ => []]⟩),
 (70, ⟨.array 2 25, 2, 48, [.fl 0 fun _ => [], .fl 0 fun _ => []]⟩),
 (71, ⟨.slice 70, 1, 24, [.fl 0 fun _ => []]⟩),
 (73, ⟨.struct [(0, 3), (1, 3), (2, 3), (3, 3)], 4, 32, [.d (.int .i64 0), .d (.int .i64 0), .d (.int .i64 0), .d (.int .i64 0)]⟩),
 (78, ⟨.array 2 3, 2, 16, [.d (.int .i64 0), .d (.int .i64 0)]⟩),
 (79, ⟨.slice 78, 1, 24, [.fl 0 fun _ => []]⟩),
 (82, ⟨.struct [(0, 22), (1, 3)], 2, 32, [.fl 0 fun _ => [], .d (.int .i64 0)]⟩),
 (88, ⟨.other, 1, 8, [.d .any]⟩),
 (89, ⟨.other, 1, 8, [.d .any]⟩),
 (100, ⟨.other, 1, 8, [.d .any]⟩),
 (105, ⟨.slice 9, 1, 24, [.fl 0 fun _ => []]⟩),
 (107, ⟨.struct [(0, 9), (1, 3), (2, 3)], 3, 32, [.d (.str ByteArray.empty), .d (.int .i64 0), .d (.int .i64 0)]⟩),
 (109, ⟨.struct [(0, 3), (1, 3), (2, 25)], 3, 40, [.d (.int .i64 0), .d (.int .i64 0), .fl 0 fun _ => []]⟩),
 (111, ⟨.other, 1, 8, [.d .any]⟩),
 (114, ⟨.other, 1, 8, [.d .any]⟩),
 (119, ⟨.other, 1, 8, [.d .any]⟩),
 (124, ⟨.struct [(0, 55), (1, 53)], 2, 48, [.fl 0 fun _ => [], .fl 0 fun _ => []]⟩),
 (135, ⟨.int .u64, 1, 8, [.d (.int .u64 0)]⟩),
 (136, ⟨.slice 23, 1, 24, [.fl 0 fun _ => []]⟩),
 (144, ⟨.other, 1, 8, [.d .any]⟩),
 (147, ⟨.other, 1, 8, [.d .any]⟩),
 (151, ⟨.slice 182, 1, 24, [.fl 0 fun _ => []]⟩),
 (154, ⟨.other, 1, 8, [.d .any]⟩),
 (177, ⟨.slice 179, 1, 24, [.fl 0 fun _ => []]⟩),
 (179, ⟨.struct [(0, 3), (1, 3), (2, 151)], 3, 40, [.d (.int .i64 0), .d (.int .i64 0), .fl 0 fun _ => []]⟩),
 (182, ⟨.struct [(0, 3), (1, 3)], 2, 16, [.d (.int .i64 0), .d (.int .i64 0)]⟩),
 (189, ⟨.other, 1, 8, [.d .any]⟩),
 (206, ⟨.slice 151, 1, 24, [.fl 0 fun _ => []]⟩),
 (209, ⟨.other, 1, 8, [.d .any]⟩)]
theorem TTok : TT.map (fun p => layOf Tryz.prog p.1) = TT.map (fun p => some p.2) := by kernel_rfl
theorem prog_lay : LOk Tryz.prog (tblL TT) := tbl_ok TTok
theorem prog_mixed : Tryz.prog.follows .mixedOrders = true := by kernel_rfl
theorem eqT73 : EqT Tryz.prog 73 := ⟨by kernel_rfl, by kernel_rfl, by kernel_rfl⟩
theorem eqT182 : EqT Tryz.prog 182 := ⟨by kernel_rfl, by kernel_rfl, by kernel_rfl⟩
theorem slT22 : slT (tblL TT) 22 ⟨.int .i64, 1, 8, [.d (.int .i64 0)]⟩ := ⟨⟨.slice 3, 1, 24, [.fl 0 fun _ => []]⟩, 3, by kernel_rfl, by kernel_rfl, by kernel_rfl⟩
theorem slT23 : slT (tblL TT) 23 ⟨.struct [(0, 3), (1, 3), (2, 3), (3, 3)], 4, 32, [.d (.int .i64 0), .d (.int .i64 0), .d (.int .i64 0), .d (.int .i64 0)]⟩ := ⟨⟨.slice 73, 1, 24, [.fl 0 fun _ => []]⟩, 73, by kernel_rfl, by kernel_rfl, by kernel_rfl⟩
end Go.Ab
end

section
namespace Go.Proofs
open Go.Shelf
def Tryz.lay171_ren : Go.Shelf.Ren := ⟨fun | 5 => 171 | 8 => 118 | 7 => 197 | 19 => 165 | 20 => 166 | 10 => 207 | 11 => 208 | 12 => 209 | 13 => 210 | 14 => 211 | 15 => 212 | 16 => 213 | 17 => 214 | 18 => 215 | 30 => 226 | 31 => 193 | 32 => 194 | 33 => 227 | 34 => 228 | 35 => 119 | 40 => 232 | n => n, fun | 23 => 22 | 25 => 3 | 3 => 3 | 32 => 135 | 22 => 22 | 0 => 0 | 44 => 172 | 46 => 174 | 4 => 4 | 36 => 166 | 35 => 165 | 41 => 145 | 5 => 5 | 9 => 9 | 53 => 199 | 57 => 203 | 63 => 214 | 64 => 127 | n => n, fun | n => n⟩
theorem Tryz.lay171 : Go.Proofs.SlLaysM.n5 Tryz.prog Tryz.lay171_ren := {
 mixed := by kernel_rfl
 f5 := ⟨Tryz.f171.name, by decide, Tryz.func171.trans (congrArg some (by kernel_rfl))⟩
 f7 := ⟨Tryz.f197.name, by decide, Tryz.func197.trans (congrArg some (by kernel_rfl))⟩
 f8 := Tryz.func118.trans (congrArg some (by kernel_rfl))
 f10 := ⟨Tryz.f207.name, by decide, Tryz.func207.trans (congrArg some (by kernel_rfl))⟩
 f11 := ⟨Tryz.f208.name, by decide, Tryz.func208.trans (congrArg some (by kernel_rfl))⟩
 f12 := ⟨Tryz.f209.name, by decide, Tryz.func209.trans (congrArg some (by kernel_rfl))⟩
 f13 := ⟨Tryz.f210.name, by decide, Tryz.func210.trans (congrArg some (by kernel_rfl))⟩
 f14 := ⟨Tryz.f211.name, by decide, Tryz.func211.trans (congrArg some (by kernel_rfl))⟩
 f15 := ⟨Tryz.f212.name, by decide, Tryz.func212.trans (congrArg some (by kernel_rfl))⟩
 f16 := ⟨Tryz.f213.name, by decide, Tryz.func213.trans (congrArg some (by kernel_rfl))⟩
 f17 := ⟨Tryz.f214.name, by decide, Tryz.func214.trans (congrArg some (by kernel_rfl))⟩
 f18 := ⟨Tryz.f215.name, by decide, Tryz.func215.trans (congrArg some (by kernel_rfl))⟩
 f19 := Tryz.func165.trans (congrArg some (by kernel_rfl))
 f20 := Tryz.func166.trans (congrArg some (by kernel_rfl))
 f30 := ⟨Tryz.f226.name, by decide, Tryz.func226.trans (congrArg some (by kernel_rfl))⟩
 f31 := Tryz.func193.trans (congrArg some (by kernel_rfl))
 f32 := Tryz.func194.trans (congrArg some (by kernel_rfl))
 f33 := ⟨Tryz.f227.name, by decide, Tryz.func227.trans (congrArg some (by kernel_rfl))⟩
 f34 := ⟨Tryz.f228.name, by decide, Tryz.func228.trans (congrArg some (by kernel_rfl))⟩
 f35 := ⟨Tryz.f119.name, by decide, Tryz.func119.trans (congrArg some (by kernel_rfl))⟩
 f40 := ⟨Tryz.f232.name, by decide, Tryz.func232.trans (congrArg some (by kernel_rfl))⟩
 t0 := Tryz.underlying0
 a0 := Tryz.isAgg0
 z0 := Tryz.sizeOf0
 v0 := Tryz.zeroValue0
 t3 := Tryz.underlying3
 a3 := Tryz.isAgg3
 z3 := Tryz.sizeOf3
 v3 := Tryz.zeroValue3
 t4 := Tryz.underlying4
 a4 := Tryz.isAgg4
 z4 := Tryz.sizeOf4
 v4 := Tryz.zeroValue4
 t5 := Tryz.underlying5
 a5 := Tryz.isAgg5
 z5 := Tryz.sizeOf5
 v5 := Tryz.zeroValue5
 t9 := Tryz.underlying9
 a9 := Tryz.isAgg9
 z9 := Tryz.sizeOf9
 v9 := Tryz.zeroValue9
 t22 := Tryz.underlying22
 a22 := Tryz.isAgg22
 z22 := Tryz.sizeOf22
 v22 := Tryz.zeroValue22
 t23 := Tryz.underlying22
 a23 := Tryz.isAgg22
 z23 := Tryz.sizeOf22
 v23 := Tryz.zeroValue22
 t25 := Tryz.underlying3
 a25 := Tryz.isAgg3
 z25 := Tryz.sizeOf3
 v25 := Tryz.zeroValue3
 t32 := Tryz.underlying135
 a32 := Tryz.isAgg135
 z32 := Tryz.sizeOf135
 v32 := Tryz.zeroValue135
 t35 := Tryz.underlying165
 a35 := Tryz.isAgg165
 z35 := Tryz.sizeOf165
 v35 := Tryz.zeroValue165
 t36 := Tryz.underlying166
 a36 := Tryz.isAgg166
 z36 := Tryz.sizeOf166
 v36 := Tryz.zeroValue166
 t41 := Tryz.underlying145
 a41 := Tryz.isAgg145
 z41 := Tryz.sizeOf145
 v41 := Tryz.zeroValue145
 t44 := Tryz.underlying172
 a44 := Tryz.isAgg172
 z44 := Tryz.sizeOf172
 v44 := Tryz.zeroValue172
 t46 := Tryz.underlying174
 a46 := Tryz.isAgg174
 z46 := Tryz.sizeOf174
 v46 := Tryz.zeroValue174
 t53 := Tryz.underlying199
 a53 := Tryz.isAgg199
 z53 := Tryz.sizeOf199
 v53 := Tryz.zeroValue199
 t57 := Tryz.underlying203
 a57 := Tryz.isAgg203
 z57 := Tryz.sizeOf203
 v57 := Tryz.zeroValue203
 t63 := Tryz.underlying214
 a63 := Tryz.isAgg214
 z63 := Tryz.sizeOf214
 v63 := Tryz.zeroValue214
 t64 := Tryz.underlying127
 a64 := Tryz.isAgg127
 z64 := Tryz.sizeOf127
 v64 := Tryz.zeroValue127 }
def Tryz.lay175_ren : Go.Shelf.Ren := ⟨fun | 6 => 175 | 15 => 118 | 14 => 201 | 28 => 165 | 29 => 166 | 20 => 217 | 21 => 218 | 22 => 219 | 23 => 220 | 24 => 221 | 25 => 222 | 26 => 223 | 27 => 224 | 46 => 229 | 47 => 193 | 48 => 194 | 49 => 230 | 50 => 231 | 57 => 233 | n => n, fun | 22 => 151 | 24 => 182 | 25 => 189 | 3 => 3 | 39 => 135 | 0 => 0 | 53 => 172 | 55 => 174 | 4 => 4 | 46 => 166 | 45 => 165 | 50 => 145 | 5 => 5 | 9 => 9 | 66 => 199 | 70 => 203 | 76 => 214 | 77 => 127 | n => n, fun | n => n⟩
theorem Tryz.lay175 : Go.Proofs.SlLaysF0.n6 Tryz.prog Tryz.lay175_ren := {
 mixed := by kernel_rfl
 f6 := ⟨Tryz.f175.name, by decide, Tryz.func175.trans (congrArg some (by kernel_rfl))⟩
 f14 := ⟨Tryz.f201.name, by decide, Tryz.func201.trans (congrArg some (by kernel_rfl))⟩
 f15 := Tryz.func118.trans (congrArg some (by kernel_rfl))
 f20 := ⟨Tryz.f217.name, by decide, Tryz.func217.trans (congrArg some (by kernel_rfl))⟩
 f21 := ⟨Tryz.f218.name, by decide, Tryz.func218.trans (congrArg some (by kernel_rfl))⟩
 f22 := ⟨Tryz.f219.name, by decide, Tryz.func219.trans (congrArg some (by kernel_rfl))⟩
 f23 := ⟨Tryz.f220.name, by decide, Tryz.func220.trans (congrArg some (by kernel_rfl))⟩
 f24 := ⟨Tryz.f221.name, by decide, Tryz.func221.trans (congrArg some (by kernel_rfl))⟩
 f25 := ⟨Tryz.f222.name, by decide, Tryz.func222.trans (congrArg some (by kernel_rfl))⟩
 f26 := ⟨Tryz.f223.name, by decide, Tryz.func223.trans (congrArg some (by kernel_rfl))⟩
 f27 := ⟨Tryz.f224.name, by decide, Tryz.func224.trans (congrArg some (by kernel_rfl))⟩
 f28 := Tryz.func165.trans (congrArg some (by kernel_rfl))
 f29 := Tryz.func166.trans (congrArg some (by kernel_rfl))
 f46 := ⟨Tryz.f229.name, by decide, Tryz.func229.trans (congrArg some (by kernel_rfl))⟩
 f47 := Tryz.func193.trans (congrArg some (by kernel_rfl))
 f48 := Tryz.func194.trans (congrArg some (by kernel_rfl))
 f49 := ⟨Tryz.f230.name, by decide, Tryz.func230.trans (congrArg some (by kernel_rfl))⟩
 f50 := ⟨Tryz.f231.name, by decide, Tryz.func231.trans (congrArg some (by kernel_rfl))⟩
 f57 := ⟨Tryz.f233.name, by decide, Tryz.func233.trans (congrArg some (by kernel_rfl))⟩
 t0 := Tryz.underlying0
 a0 := Tryz.isAgg0
 z0 := Tryz.sizeOf0
 v0 := Tryz.zeroValue0
 t3 := Tryz.underlying3
 a3 := Tryz.isAgg3
 z3 := Tryz.sizeOf3
 v3 := Tryz.zeroValue3
 t4 := Tryz.underlying4
 a4 := Tryz.isAgg4
 z4 := Tryz.sizeOf4
 v4 := Tryz.zeroValue4
 t5 := Tryz.underlying5
 a5 := Tryz.isAgg5
 z5 := Tryz.sizeOf5
 v5 := Tryz.zeroValue5
 t9 := Tryz.underlying9
 a9 := Tryz.isAgg9
 z9 := Tryz.sizeOf9
 v9 := Tryz.zeroValue9
 t22 := Tryz.underlying151
 a22 := Tryz.isAgg151
 z22 := Tryz.sizeOf151
 v22 := Tryz.zeroValue151
 t25 := Tryz.underlying189
 a25 := Tryz.isAgg189
 z25 := Tryz.sizeOf189
 v25 := Tryz.zeroValue189
 t39 := Tryz.underlying135
 a39 := Tryz.isAgg135
 z39 := Tryz.sizeOf135
 v39 := Tryz.zeroValue135
 t45 := Tryz.underlying165
 a45 := Tryz.isAgg165
 z45 := Tryz.sizeOf165
 v45 := Tryz.zeroValue165
 t46 := Tryz.underlying166
 a46 := Tryz.isAgg166
 z46 := Tryz.sizeOf166
 v46 := Tryz.zeroValue166
 t50 := Tryz.underlying145
 a50 := Tryz.isAgg145
 z50 := Tryz.sizeOf145
 v50 := Tryz.zeroValue145
 t53 := Tryz.underlying172
 a53 := Tryz.isAgg172
 z53 := Tryz.sizeOf172
 v53 := Tryz.zeroValue172
 t55 := Tryz.underlying174
 a55 := Tryz.isAgg174
 z55 := Tryz.sizeOf174
 v55 := Tryz.zeroValue174
 t66 := Tryz.underlying199
 a66 := Tryz.isAgg199
 z66 := Tryz.sizeOf199
 v66 := Tryz.zeroValue199
 t70 := Tryz.underlying203
 a70 := Tryz.isAgg203
 z70 := Tryz.sizeOf203
 v70 := Tryz.zeroValue203
 t76 := Tryz.underlying214
 a76 := Tryz.isAgg214
 z76 := Tryz.sizeOf214
 v76 := Tryz.zeroValue214
 t77 := Tryz.underlying127
 a77 := Tryz.isAgg127
 z77 := Tryz.sizeOf127
 v77 := Tryz.zeroValue127 }
def Tryz.lay58_ren : Go.Shelf.Ren := ⟨fun | 6 => 58 | 15 => 118 | 14 => 117 | 28 => 165 | 29 => 166 | 20 => 157 | 21 => 158 | 22 => 159 | 23 => 160 | 24 => 161 | 25 => 162 | 26 => 163 | 27 => 164 | 46 => 192 | 47 => 193 | 48 => 194 | 49 => 195 | 50 => 196 | 57 => 206 | n => n, fun | 22 => 29 | 24 => 25 | 25 => 88 | 3 => 3 | 39 => 135 | 0 => 0 | 53 => 172 | 55 => 174 | 4 => 4 | 46 => 166 | 45 => 165 | 50 => 145 | 5 => 5 | 9 => 9 | 66 => 199 | 70 => 203 | 76 => 214 | 77 => 127 | n => n, fun | n => n⟩
theorem Tryz.lay58 : Go.Proofs.SlLaysF0.n6 Tryz.prog Tryz.lay58_ren := {
 mixed := by kernel_rfl
 f6 := ⟨Tryz.f58.name, by decide, Tryz.func58.trans (congrArg some (by kernel_rfl))⟩
 f14 := ⟨Tryz.f117.name, by decide, Tryz.func117.trans (congrArg some (by kernel_rfl))⟩
 f15 := Tryz.func118.trans (congrArg some (by kernel_rfl))
 f20 := ⟨Tryz.f157.name, by decide, Tryz.func157.trans (congrArg some (by kernel_rfl))⟩
 f21 := ⟨Tryz.f158.name, by decide, Tryz.func158.trans (congrArg some (by kernel_rfl))⟩
 f22 := ⟨Tryz.f159.name, by decide, Tryz.func159.trans (congrArg some (by kernel_rfl))⟩
 f23 := ⟨Tryz.f160.name, by decide, Tryz.func160.trans (congrArg some (by kernel_rfl))⟩
 f24 := ⟨Tryz.f161.name, by decide, Tryz.func161.trans (congrArg some (by kernel_rfl))⟩
 f25 := ⟨Tryz.f162.name, by decide, Tryz.func162.trans (congrArg some (by kernel_rfl))⟩
 f26 := ⟨Tryz.f163.name, by decide, Tryz.func163.trans (congrArg some (by kernel_rfl))⟩
 f27 := ⟨Tryz.f164.name, by decide, Tryz.func164.trans (congrArg some (by kernel_rfl))⟩
 f28 := Tryz.func165.trans (congrArg some (by kernel_rfl))
 f29 := Tryz.func166.trans (congrArg some (by kernel_rfl))
 f46 := ⟨Tryz.f192.name, by decide, Tryz.func192.trans (congrArg some (by kernel_rfl))⟩
 f47 := Tryz.func193.trans (congrArg some (by kernel_rfl))
 f48 := Tryz.func194.trans (congrArg some (by kernel_rfl))
 f49 := ⟨Tryz.f195.name, by decide, Tryz.func195.trans (congrArg some (by kernel_rfl))⟩
 f50 := ⟨Tryz.f196.name, by decide, Tryz.func196.trans (congrArg some (by kernel_rfl))⟩
 f57 := ⟨Tryz.f206.name, by decide, Tryz.func206.trans (congrArg some (by kernel_rfl))⟩
 t0 := Tryz.underlying0
 a0 := Tryz.isAgg0
 z0 := Tryz.sizeOf0
 v0 := Tryz.zeroValue0
 t3 := Tryz.underlying3
 a3 := Tryz.isAgg3
 z3 := Tryz.sizeOf3
 v3 := Tryz.zeroValue3
 t4 := Tryz.underlying4
 a4 := Tryz.isAgg4
 z4 := Tryz.sizeOf4
 v4 := Tryz.zeroValue4
 t5 := Tryz.underlying5
 a5 := Tryz.isAgg5
 z5 := Tryz.sizeOf5
 v5 := Tryz.zeroValue5
 t9 := Tryz.underlying9
 a9 := Tryz.isAgg9
 z9 := Tryz.sizeOf9
 v9 := Tryz.zeroValue9
 t22 := Tryz.underlying29
 a22 := Tryz.isAgg29
 z22 := Tryz.sizeOf29
 v22 := Tryz.zeroValue29
 t25 := Tryz.underlying88
 a25 := Tryz.isAgg88
 z25 := Tryz.sizeOf88
 v25 := Tryz.zeroValue88
 t39 := Tryz.underlying135
 a39 := Tryz.isAgg135
 z39 := Tryz.sizeOf135
 v39 := Tryz.zeroValue135
 t45 := Tryz.underlying165
 a45 := Tryz.isAgg165
 z45 := Tryz.sizeOf165
 v45 := Tryz.zeroValue165
 t46 := Tryz.underlying166
 a46 := Tryz.isAgg166
 z46 := Tryz.sizeOf166
 v46 := Tryz.zeroValue166
 t50 := Tryz.underlying145
 a50 := Tryz.isAgg145
 z50 := Tryz.sizeOf145
 v50 := Tryz.zeroValue145
 t53 := Tryz.underlying172
 a53 := Tryz.isAgg172
 z53 := Tryz.sizeOf172
 v53 := Tryz.zeroValue172
 t55 := Tryz.underlying174
 a55 := Tryz.isAgg174
 z55 := Tryz.sizeOf174
 v55 := Tryz.zeroValue174
 t66 := Tryz.underlying199
 a66 := Tryz.isAgg199
 z66 := Tryz.sizeOf199
 v66 := Tryz.zeroValue199
 t70 := Tryz.underlying203
 a70 := Tryz.isAgg203
 z70 := Tryz.sizeOf203
 v70 := Tryz.zeroValue203
 t76 := Tryz.underlying214
 a76 := Tryz.isAgg214
 z76 := Tryz.sizeOf214
 v76 := Tryz.zeroValue214
 t77 := Tryz.underlying127
 a77 := Tryz.isAgg127
 z77 := Tryz.sizeOf127
 v77 := Tryz.zeroValue127 }
def Tryz.lay198_ren : Go.Shelf.Ren := ⟨fun | 4 => 198 | n => n, fun | 22 => 151 | 25 => 182 | 3 => 3 | 4 => 4 | 9 => 9 | 20 => 20 | 0 => 0 | 2 => 3 | n => n, fun | n => n⟩
theorem Tryz.lay198 : Go.Proofs.Lays8.n4 Tryz.prog Tryz.lay198_ren := {
 mixed := by kernel_rfl
 f4 := ⟨Tryz.f198.name, by decide, Tryz.func198.trans (congrArg some (by kernel_rfl))⟩
 t0 := Tryz.underlying0
 a0 := Tryz.isAgg0
 z0 := Tryz.sizeOf0
 v0 := Tryz.zeroValue0
 t3 := Tryz.underlying3
 a3 := Tryz.isAgg3
 z3 := Tryz.sizeOf3
 v3 := Tryz.zeroValue3
 t4 := Tryz.underlying4
 a4 := Tryz.isAgg4
 z4 := Tryz.sizeOf4
 v4 := Tryz.zeroValue4
 t9 := Tryz.underlying9
 a9 := Tryz.isAgg9
 z9 := Tryz.sizeOf9
 v9 := Tryz.zeroValue9
 t20 := Tryz.underlying20
 a20 := Tryz.isAgg20
 z20 := Tryz.sizeOf20
 v20 := Tryz.zeroValue20
 t22 := Tryz.underlying151
 a22 := Tryz.isAgg151
 z22 := Tryz.sizeOf151
 v22 := Tryz.zeroValue151 }
end Go.Proofs
end

section
namespace Go.Ab
open Go.Proofs
theorem sortI_spec {x r : List Int} (h : sortI x = some r) : FSpec Tryz.prog 171 [.v (.c (.own 0))] [(0, AO (α := Int) x)] .any [(0, AO (α := Int) r)] := sortI_FSpec Tryz.lay171 h
theorem sortF_spec {x : List Span} {q : Span → Span → Option Int} {r : List Span} (h : sortF x q = some r) : FSpec Tryz.prog 175 [.v (.c (.own 0)), .v (.c (.sem (CloOK Tryz.prog (FR_Span_Span_Int q))))] [(0, AO (α := Span) x)] .any [(0, AO (α := Span) r)] :=
 sortF_FSpec prog_lay Tryz.lay175 (fun _ => rfl) (te := ⟨.struct [(0, 3), (1, 3)], 2, 16, [.d (.int .i64 0), .d (.int .i64 0)]⟩) (by kernel_rfl) rfl rfl FR_Span_Span_Int (fun q x y z hq => ⟨x, y, z, hq, rfl, rfl⟩) h
theorem growN_spec {n : Int} {r : List Span} (h : growN n = some r) : FSpec Tryz.prog 198 [.v (.c (.fl 0 fun _ => [])), vi n] [] (.v (.c (.own 100))) [(100, AO (α := Span) r)] :=
 growN_FSpec prog_lay Tryz.lay198 (te := ⟨.struct [(0, 3), (1, 3)], 2, 16, [.d (.int .i64 0), .d (.int .i64 0)]⟩) (by kernel_rfl) rfl (by decide) (by decide) rfl h
theorem sortG_Region_spec {x r : List Region} {q : Region → Region → Option Int} (h : sortG x q = some r) : FSpec Tryz.prog 58 [.v (.c (.own 0)), .v (.c (.sem (CloOK Tryz.prog (FR_Region_Region_Int q))))] [(0, AO (α := Region) x)] .any [(0, AO (α := Region) r)] :=
 sortG_FSpec prog_lay Tryz.lay58 (te := ⟨.struct [(0, 23)], 1, 24, [.fl 0 fun _ => []]⟩) (by kernel_rfl) (by kernel_rfl) (by kernel_rfl) FR_Region_Region_Int (fun q x y z hq => ⟨x, y, z, hq, rfl, rfl⟩) h
end Go.Ab
end
