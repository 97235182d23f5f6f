/- The types of the program, its sorts and their contracts: no condition. -/
import Derived.Test.YtmidmmneigeaaaaGreatPuB
import Derived.Test.YtmidmmneigeaaaaGreatProg
import Derived.Shelf.SlGeneric
import Derived.Shelf.SortM.Plain
import Derived.Shelf.SortM.SortNone
import Derived.Shelf.SlSortCmp.WholeK
import Derived.Shelf.SlSortCmp.NoneTotal
import Derived.Shelf.Spec.SlicesGrow
import Derived.Ground.SlgmProg
import Derived.Ground.SlsfProg
import Derived.Ground.Names8Prog
import Derived.Test.YtmidmmneigeaaaaGreatAbC
set_option linter.unusedVariables false
set_option linter.unusedSimpArgs false
section
namespace Go.Ab
open Go.Proofs
set_option linter.unusedVariables false
set_option maxRecDepth 100000
def TT : List (Nat × TI) := [
 (3, ⟨.int .i64, 1, 8, [.d (.int .i64 0)]⟩),
 (4, ⟨.bool, 1, 1, [.d (.bool false)]⟩),
 (5, ⟨.int .u8, 1, 1, [.d (.int .u8 0)]⟩),
 (22, ⟨.slice 3, 1, 24, [.fl 0 fun _ => []]⟩),
 (23, ⟨.other, 1, 8, [.d .any]⟩),
 (25, ⟨.slice 46, 1, 24, [.fl 0 fun _ => []]⟩),
 (27, ⟨.slice 78, 1, 24, [.fl 0 fun _ => []]⟩),
 (29, ⟨.struct [(0, 27)], 1, 24, [.fl 0 fun _ => []]⟩),
 (31, ⟨.int .i64, 1, 8, [.d (.int .i64 0)]⟩),
 (40, ⟨.slice 29, 1, 24, [.fl 0 fun _ => []]⟩),
 (46, ⟨.struct [(0, 3), (1, 3), (2, 3), (3, 3), (4, 29)], 5, 56, [.d (.int .i64 0), .d (.int .i64 0), .d (.int .i64 0), .d (.int .i64 0), .fl 0 fun _ => []]⟩),
 (55, ⟨.other, 1, 8, [.d .any]⟩),
 (75, ⟨.struct [(0, 22), (1, 3)], 2, 32, [.fl 0 fun _ => [], .d (.int .i64 0)]⟩),
 (78, ⟨.struct [(0, 3), (1, 3), (2, 3), (3, 3)], 4, 32, [.d (.int .i64 0), .d (.int .i64 0), .d (.int .i64 0), .d (.int .i64 0)]⟩),
 (84, ⟨.other, 1, 8, [.d .any]⟩),
 (105, ⟨.other, 1, 8, [.d .any]⟩),
 (118, ⟨.other, 1, 8, [.d .any]⟩),
 (121, ⟨.slice 142, 1, 24, [.fl 0 fun _ => []]⟩),
 (124, ⟨.other, 1, 8, [.d .any]⟩),
 (125, ⟨.slice 27, 1, 24, [.fl 0 fun _ => []]⟩),
 (137, ⟨.slice 139, 1, 24, [.fl 0 fun _ => []]⟩),
 (139, ⟨.struct [(0, 3), (1, 3), (2, 121)], 3, 40, [.d (.int .i64 0), .d (.int .i64 0), .fl 0 fun _ => []]⟩),
 (142, ⟨.struct [(0, 3), (1, 3)], 2, 16, [.d (.int .i64 0), .d (.int .i64 0)]⟩),
 (147, ⟨.other, 1, 8, [.d .any]⟩),
 (162, ⟨.slice 121, 1, 24, [.fl 0 fun _ => []]⟩),
 (165, ⟨.other, 1, 8, [.d .any]⟩)]
theorem TTok : TT.map (fun p => layOf Tryz.prog p.1) = TT.map (fun p => some p.2) := by kernel_rfl
theorem prog_lay : LOk Tryz.prog (tblL TT) := tbl_ok TTok
theorem prog_mixed : Tryz.prog.follows .mixedOrders = true := by kernel_rfl
theorem eqT78 : EqT Tryz.prog 78 := ⟨by kernel_rfl, by kernel_rfl, by kernel_rfl⟩
theorem eqT142 : EqT Tryz.prog 142 := ⟨by kernel_rfl, by kernel_rfl, by kernel_rfl⟩
theorem slT22 : slT (tblL TT) 22 ⟨.int .i64, 1, 8, [.d (.int .i64 0)]⟩ := ⟨⟨.slice 3, 1, 24, [.fl 0 fun _ => []]⟩, 3, by kernel_rfl, by kernel_rfl, by kernel_rfl⟩
theorem slT25 : slT (tblL TT) 25 ⟨.struct [(0, 3), (1, 3), (2, 3), (3, 3), (4, 29)], 5, 56, [.d (.int .i64 0), .d (.int .i64 0), .d (.int .i64 0), .d (.int .i64 0), .fl 0 fun _ => []]⟩ := ⟨⟨.slice 46, 1, 24, [.fl 0 fun _ => []]⟩, 46, by kernel_rfl, by kernel_rfl, by kernel_rfl⟩
theorem slT27 : slT (tblL TT) 27 ⟨.struct [(0, 3), (1, 3), (2, 3), (3, 3)], 4, 32, [.d (.int .i64 0), .d (.int .i64 0), .d (.int .i64 0), .d (.int .i64 0)]⟩ := ⟨⟨.slice 78, 1, 24, [.fl 0 fun _ => []]⟩, 78, by kernel_rfl, by kernel_rfl, by kernel_rfl⟩
end Go.Ab
end

section
namespace Go.Proofs
open Go.Shelf
def Tryz.lay76_ren : Go.Shelf.Ren := ⟨fun | 5 => 76 | 8 => 125 | 7 => 124 | 19 => 158 | 20 => 159 | 10 => 149 | 11 => 150 | 12 => 151 | 13 => 152 | 14 => 153 | 15 => 154 | 16 => 155 | 17 => 156 | 18 => 157 | 30 => 168 | 31 => 169 | 32 => 170 | 33 => 171 | 34 => 172 | 35 => 161 | 40 => 183 | n => n, fun | 23 => 22 | 25 => 3 | 3 => 3 | 32 => 132 | 22 => 22 | 0 => 0 | 44 => 158 | 46 => 160 | 4 => 4 | 36 => 151 | 35 => 150 | 41 => 107 | 5 => 5 | 9 => 9 | 53 => 167 | 57 => 171 | 63 => 180 | 64 => 181 | n => n, fun | n => n⟩
theorem Tryz.lay76 : Go.Proofs.SlLaysM.n5 Tryz.prog Tryz.lay76_ren := {
 mixed := by kernel_rfl
 f5 := ⟨Tryz.f76.name, by decide, Tryz.func76.trans (congrArg some (by kernel_rfl))⟩
 f7 := ⟨Tryz.f124.name, by decide, Tryz.func124.trans (congrArg some (by kernel_rfl))⟩
 f8 := Tryz.func125.trans (congrArg some (by kernel_rfl))
 f10 := ⟨Tryz.f149.name, by decide, Tryz.func149.trans (congrArg some (by kernel_rfl))⟩
 f11 := ⟨Tryz.f150.name, by decide, Tryz.func150.trans (congrArg some (by kernel_rfl))⟩
 f12 := ⟨Tryz.f151.name, by decide, Tryz.func151.trans (congrArg some (by kernel_rfl))⟩
 f13 := ⟨Tryz.f152.name, by decide, Tryz.func152.trans (congrArg some (by kernel_rfl))⟩
 f14 := ⟨Tryz.f153.name, by decide, Tryz.func153.trans (congrArg some (by kernel_rfl))⟩
 f15 := ⟨Tryz.f154.name, by decide, Tryz.func154.trans (congrArg some (by kernel_rfl))⟩
 f16 := ⟨Tryz.f155.name, by decide, Tryz.func155.trans (congrArg some (by kernel_rfl))⟩
 f17 := ⟨Tryz.f156.name, by decide, Tryz.func156.trans (congrArg some (by kernel_rfl))⟩
 f18 := ⟨Tryz.f157.name, by decide, Tryz.func157.trans (congrArg some (by kernel_rfl))⟩
 f19 := Tryz.func158.trans (congrArg some (by kernel_rfl))
 f20 := Tryz.func159.trans (congrArg some (by kernel_rfl))
 f30 := ⟨Tryz.f168.name, by decide, Tryz.func168.trans (congrArg some (by kernel_rfl))⟩
 f31 := Tryz.func169.trans (congrArg some (by kernel_rfl))
 f32 := Tryz.func170.trans (congrArg some (by kernel_rfl))
 f33 := ⟨Tryz.f171.name, by decide, Tryz.func171.trans (congrArg some (by kernel_rfl))⟩
 f34 := ⟨Tryz.f172.name, by decide, Tryz.func172.trans (congrArg some (by kernel_rfl))⟩
 f35 := ⟨Tryz.f161.name, by decide, Tryz.func161.trans (congrArg some (by kernel_rfl))⟩
 f40 := ⟨Tryz.f183.name, by decide, Tryz.func183.trans (congrArg some (by kernel_rfl))⟩
 t0 := Tryz.underlying0
 a0 := Tryz.isAgg0
 z0 := Tryz.sizeOf0
 v0 := Tryz.zeroValue0
 t3 := Tryz.underlying3
 a3 := Tryz.isAgg3
 z3 := Tryz.sizeOf3
 v3 := Tryz.zeroValue3
 t4 := Tryz.underlying4
 a4 := Tryz.isAgg4
 z4 := Tryz.sizeOf4
 v4 := Tryz.zeroValue4
 t5 := Tryz.underlying5
 a5 := Tryz.isAgg5
 z5 := Tryz.sizeOf5
 v5 := Tryz.zeroValue5
 t9 := Tryz.underlying9
 a9 := Tryz.isAgg9
 z9 := Tryz.sizeOf9
 v9 := Tryz.zeroValue9
 t22 := Tryz.underlying22
 a22 := Tryz.isAgg22
 z22 := Tryz.sizeOf22
 v22 := Tryz.zeroValue22
 t23 := Tryz.underlying22
 a23 := Tryz.isAgg22
 z23 := Tryz.sizeOf22
 v23 := Tryz.zeroValue22
 t25 := Tryz.underlying3
 a25 := Tryz.isAgg3
 z25 := Tryz.sizeOf3
 v25 := Tryz.zeroValue3
 t32 := Tryz.underlying132
 a32 := Tryz.isAgg132
 z32 := Tryz.sizeOf132
 v32 := Tryz.zeroValue132
 t35 := Tryz.underlying150
 a35 := Tryz.isAgg150
 z35 := Tryz.sizeOf150
 v35 := Tryz.zeroValue150
 t36 := Tryz.underlying151
 a36 := Tryz.isAgg151
 z36 := Tryz.sizeOf151
 v36 := Tryz.zeroValue151
 t41 := Tryz.underlying107
 a41 := Tryz.isAgg107
 z41 := Tryz.sizeOf107
 v41 := Tryz.zeroValue107
 t44 := Tryz.underlying158
 a44 := Tryz.isAgg158
 z44 := Tryz.sizeOf158
 v44 := Tryz.zeroValue158
 t46 := Tryz.underlying160
 a46 := Tryz.isAgg160
 z46 := Tryz.sizeOf160
 v46 := Tryz.zeroValue160
 t53 := Tryz.underlying167
 a53 := Tryz.isAgg167
 z53 := Tryz.sizeOf167
 v53 := Tryz.zeroValue167
 t57 := Tryz.underlying171
 a57 := Tryz.isAgg171
 z57 := Tryz.sizeOf171
 v57 := Tryz.zeroValue171
 t63 := Tryz.underlying180
 a63 := Tryz.isAgg180
 z63 := Tryz.sizeOf180
 v63 := Tryz.zeroValue180
 t64 := Tryz.underlying181
 a64 := Tryz.isAgg181
 z64 := Tryz.sizeOf181
 v64 := Tryz.zeroValue181 }
def Tryz.lay145_ren : Go.Shelf.Ren := ⟨fun | 6 => 145 | 15 => 125 | 14 => 167 | 28 => 158 | 29 => 159 | 20 => 175 | 21 => 176 | 22 => 177 | 23 => 178 | 24 => 179 | 25 => 180 | 26 => 181 | 27 => 182 | 46 => 184 | 47 => 169 | 48 => 170 | 49 => 185 | 50 => 186 | 57 => 187 | n => n, fun | 22 => 121 | 24 => 142 | 25 => 147 | 3 => 3 | 39 => 132 | 0 => 0 | 53 => 158 | 55 => 160 | 4 => 4 | 46 => 151 | 45 => 150 | 50 => 107 | 5 => 5 | 9 => 9 | 66 => 167 | 70 => 171 | 76 => 180 | 77 => 181 | n => n, fun | n => n⟩
theorem Tryz.lay145 : Go.Proofs.SlLaysF0.n6 Tryz.prog Tryz.lay145_ren := {
 mixed := by kernel_rfl
 f6 := ⟨Tryz.f145.name, by decide, Tryz.func145.trans (congrArg some (by kernel_rfl))⟩
 f14 := ⟨Tryz.f167.name, by decide, Tryz.func167.trans (congrArg some (by kernel_rfl))⟩
 f15 := Tryz.func125.trans (congrArg some (by kernel_rfl))
 f20 := ⟨Tryz.f175.name, by decide, Tryz.func175.trans (congrArg some (by kernel_rfl))⟩
 f21 := ⟨Tryz.f176.name, by decide, Tryz.func176.trans (congrArg some (by kernel_rfl))⟩
 f22 := ⟨Tryz.f177.name, by decide, Tryz.func177.trans (congrArg some (by kernel_rfl))⟩
 f23 := ⟨Tryz.f178.name, by decide, Tryz.func178.trans (congrArg some (by kernel_rfl))⟩
 f24 := ⟨Tryz.f179.name, by decide, Tryz.func179.trans (congrArg some (by kernel_rfl))⟩
 f25 := ⟨Tryz.f180.name, by decide, Tryz.func180.trans (congrArg some (by kernel_rfl))⟩
 f26 := ⟨Tryz.f181.name, by decide, Tryz.func181.trans (congrArg some (by kernel_rfl))⟩
 f27 := ⟨Tryz.f182.name, by decide, Tryz.func182.trans (congrArg some (by kernel_rfl))⟩
 f28 := Tryz.func158.trans (congrArg some (by kernel_rfl))
 f29 := Tryz.func159.trans (congrArg some (by kernel_rfl))
 f46 := ⟨Tryz.f184.name, by decide, Tryz.func184.trans (congrArg some (by kernel_rfl))⟩
 f47 := Tryz.func169.trans (congrArg some (by kernel_rfl))
 f48 := Tryz.func170.trans (congrArg some (by kernel_rfl))
 f49 := ⟨Tryz.f185.name, by decide, Tryz.func185.trans (congrArg some (by kernel_rfl))⟩
 f50 := ⟨Tryz.f186.name, by decide, Tryz.func186.trans (congrArg some (by kernel_rfl))⟩
 f57 := ⟨Tryz.f187.name, by decide, Tryz.func187.trans (congrArg some (by kernel_rfl))⟩
 t0 := Tryz.underlying0
 a0 := Tryz.isAgg0
 z0 := Tryz.sizeOf0
 v0 := Tryz.zeroValue0
 t3 := Tryz.underlying3
 a3 := Tryz.isAgg3
 z3 := Tryz.sizeOf3
 v3 := Tryz.zeroValue3
 t4 := Tryz.underlying4
 a4 := Tryz.isAgg4
 z4 := Tryz.sizeOf4
 v4 := Tryz.zeroValue4
 t5 := Tryz.underlying5
 a5 := Tryz.isAgg5
 z5 := Tryz.sizeOf5
 v5 := Tryz.zeroValue5
 t9 := Tryz.underlying9
 a9 := Tryz.isAgg9
 z9 := Tryz.sizeOf9
 v9 := Tryz.zeroValue9
 t22 := Tryz.underlying121
 a22 := Tryz.isAgg121
 z22 := Tryz.sizeOf121
 v22 := Tryz.zeroValue121
 t25 := Tryz.underlying147
 a25 := Tryz.isAgg147
 z25 := Tryz.sizeOf147
 v25 := Tryz.zeroValue147
 t39 := Tryz.underlying132
 a39 := Tryz.isAgg132
 z39 := Tryz.sizeOf132
 v39 := Tryz.zeroValue132
 t45 := Tryz.underlying150
 a45 := Tryz.isAgg150
 z45 := Tryz.sizeOf150
 v45 := Tryz.zeroValue150
 t46 := Tryz.underlying151
 a46 := Tryz.isAgg151
 z46 := Tryz.sizeOf151
 v46 := Tryz.zeroValue151
 t50 := Tryz.underlying107
 a50 := Tryz.isAgg107
 z50 := Tryz.sizeOf107
 v50 := Tryz.zeroValue107
 t53 := Tryz.underlying158
 a53 := Tryz.isAgg158
 z53 := Tryz.sizeOf158
 v53 := Tryz.zeroValue158
 t55 := Tryz.underlying160
 a55 := Tryz.isAgg160
 z55 := Tryz.sizeOf160
 v55 := Tryz.zeroValue160
 t66 := Tryz.underlying167
 a66 := Tryz.isAgg167
 z66 := Tryz.sizeOf167
 v66 := Tryz.zeroValue167
 t70 := Tryz.underlying171
 a70 := Tryz.isAgg171
 z70 := Tryz.sizeOf171
 v70 := Tryz.zeroValue171
 t76 := Tryz.underlying180
 a76 := Tryz.isAgg180
 z76 := Tryz.sizeOf180
 v76 := Tryz.zeroValue180
 t77 := Tryz.underlying181
 a77 := Tryz.isAgg181
 z77 := Tryz.sizeOf181
 v77 := Tryz.zeroValue181 }
def Tryz.lay164_ren : Go.Shelf.Ren := ⟨fun | 4 => 164 | n => n, fun | 22 => 121 | 25 => 142 | 3 => 3 | 4 => 4 | 9 => 9 | 20 => 20 | 0 => 0 | 2 => 3 | n => n, fun | n => n⟩
theorem Tryz.lay164 : Go.Proofs.Lays8.n4 Tryz.prog Tryz.lay164_ren := {
 mixed := by kernel_rfl
 f4 := ⟨Tryz.f164.name, by decide, Tryz.func164.trans (congrArg some (by kernel_rfl))⟩
 t0 := Tryz.underlying0
 a0 := Tryz.isAgg0
 z0 := Tryz.sizeOf0
 v0 := Tryz.zeroValue0
 t3 := Tryz.underlying3
 a3 := Tryz.isAgg3
 z3 := Tryz.sizeOf3
 v3 := Tryz.zeroValue3
 t4 := Tryz.underlying4
 a4 := Tryz.isAgg4
 z4 := Tryz.sizeOf4
 v4 := Tryz.zeroValue4
 t9 := Tryz.underlying9
 a9 := Tryz.isAgg9
 z9 := Tryz.sizeOf9
 v9 := Tryz.zeroValue9
 t20 := Tryz.underlying20
 a20 := Tryz.isAgg20
 z20 := Tryz.sizeOf20
 v20 := Tryz.zeroValue20
 t22 := Tryz.underlying121
 a22 := Tryz.isAgg121
 z22 := Tryz.sizeOf121
 v22 := Tryz.zeroValue121 }
def Tryz.lay112_ren : Go.Shelf.Ren := ⟨fun | 4 => 112 | n => n, fun | 22 => 27 | 25 => 78 | 3 => 3 | 4 => 4 | 9 => 9 | 20 => 20 | 0 => 0 | n => n, fun | n => n⟩
theorem Tryz.lay112 : Go.Proofs.Lays8.n4 Tryz.prog Tryz.lay112_ren := {
 mixed := by kernel_rfl
 f4 := ⟨Tryz.f112.name, by decide, Tryz.func112.trans (congrArg some (by kernel_rfl))⟩
 t0 := Tryz.underlying0
 a0 := Tryz.isAgg0
 z0 := Tryz.sizeOf0
 v0 := Tryz.zeroValue0
 t3 := Tryz.underlying3
 a3 := Tryz.isAgg3
 z3 := Tryz.sizeOf3
 v3 := Tryz.zeroValue3
 t4 := Tryz.underlying4
 a4 := Tryz.isAgg4
 z4 := Tryz.sizeOf4
 v4 := Tryz.zeroValue4
 t9 := Tryz.underlying9
 a9 := Tryz.isAgg9
 z9 := Tryz.sizeOf9
 v9 := Tryz.zeroValue9
 t20 := Tryz.underlying20
 a20 := Tryz.isAgg20
 z20 := Tryz.sizeOf20
 v20 := Tryz.zeroValue20
 t22 := Tryz.underlying27
 a22 := Tryz.isAgg27
 z22 := Tryz.sizeOf27
 v22 := Tryz.zeroValue27 }
end Go.Proofs
end

section
namespace Go.Ab
open Go.Proofs
theorem sortI_spec {x r : List Int} (h : sortI x = some r) : FSpec Tryz.prog 76 [.v (.c (.own 0))] [(0, AO (α := Int) x)] .any [(0, AO (α := Int) r)] := sortI_FSpec Tryz.lay76 h
theorem sortF_spec {x : List Span} {q : Span → Span → Option Int} {r : List Span} (h : sortF x q = some r) : FSpec Tryz.prog 145 [.v (.c (.own 0)), .v (.c (.sem (CloOK Tryz.prog (FR_Span_Span_Int q))))] [(0, AO (α := Span) x)] .any [(0, AO (α := Span) r)] :=
 sortF_FSpec prog_lay Tryz.lay145 (fun _ => rfl) (te := ⟨.struct [(0, 3), (1, 3)], 2, 16, [.d (.int .i64 0), .d (.int .i64 0)]⟩) (by kernel_rfl) rfl rfl FR_Span_Span_Int (fun q x y z hq => ⟨x, y, z, hq, rfl, rfl⟩) h
theorem growN_spec {n : Int} {r : List Span} (h : growN n = some r) : FSpec Tryz.prog 164 [.v (.c (.fl 0 fun _ => [])), vi n] [] (.v (.c (.own 100))) [(100, AO (α := Span) r)] :=
 growN_FSpec prog_lay Tryz.lay164 (te := ⟨.struct [(0, 3), (1, 3)], 2, 16, [.d (.int .i64 0), .d (.int .i64 0)]⟩) (by kernel_rfl) rfl (by decide) (by decide) rfl h
theorem growN_Rect_spec {n : Int} {r : List Rect} (h : growN n = some r) : FSpec Tryz.prog 112 [.v (.c (.fl 0 fun _ => [])), vi n] [] (.v (.c (.own 100))) [(100, AO (α := Rect) r)] :=
 growN_FSpec prog_lay Tryz.lay112 (te := ⟨.struct [(0, 3), (1, 3), (2, 3), (3, 3)], 4, 32, [.d (.int .i64 0), .d (.int .i64 0), .d (.int .i64 0), .d (.int .i64 0)]⟩) (by kernel_rfl) rfl (by decide) (by decide) rfl h
end Go.Ab
end
