/- Abstract states over the model: every lemma holds of any program of the form that it names. -/
import Derived.Shelf.SlGeneric
import Derived.Shelf.SlIterI.Nil
import Derived.Shelf.SlIterI.Sorted
import Derived.Ground.GgzProg
import Derived.Test.YthifkkpkmdpoiaaProg
set_option linter.unusedVariables false
set_option linter.unusedSimpArgs false
section
namespace Go.Proofs
open Go.Shelf
def Try.lay29_ren : Go.Shelf.Ren := ⟨fun | 7 => 29 | 10 => 41 | n => n, fun | 23 => 63 | 26 => 3 | 3 => 4 | 28 => 66 | 0 => 0 | 27 => 65 | 33 => 75 | 4 => 4 | n => n, fun | n => n⟩
theorem Try.lay29 : Go.Proofs.SlLaysZI.n7 Try.prog Try.lay29_ren := {
 mixed := by kernel_rfl
 f7 := ⟨Try.f29.name, by decide, Try.func29.trans (congrArg some (by kernel_rfl))⟩
 f10 := ⟨Try.f41.name, by decide, Try.func41.trans (congrArg some (by kernel_rfl))⟩
 t0 := Try.underlying0
 a0 := Try.isAgg0
 z0 := Try.sizeOf0
 v0 := Try.zeroValue0
 t4 := Try.underlying4
 a4 := Try.isAgg4
 z4 := Try.sizeOf4
 v4 := Try.zeroValue4
 t23 := Try.underlying63
 a23 := Try.isAgg63
 z23 := Try.sizeOf63
 v23 := Try.zeroValue63
 t26 := Try.underlying3
 a26 := Try.isAgg3
 z26 := Try.sizeOf3
 v26 := Try.zeroValue3
 t27 := Try.underlying65
 a27 := Try.isAgg65
 z27 := Try.sizeOf65
 v27 := Try.zeroValue65
 t28 := Try.underlying66
 a28 := Try.isAgg66
 z28 := Try.sizeOf66
 v28 := Try.zeroValue66
 t33 := Try.underlying75
 a33 := Try.isAgg75
 z33 := Try.sizeOf75
 v33 := Try.zeroValue75 }
def Try.lay28_ren : Go.Shelf.Ren := ⟨fun | 6 => 28 | 8 => 39 | 9 => 40 | 11 => 52 | 13 => 54 | 12 => 53 | 23 => 72 | 24 => 73 | 14 => 63 | 15 => 64 | 16 => 65 | 17 => 66 | 18 => 67 | 19 => 68 | 20 => 69 | 21 => 70 | 22 => 71 | 25 => 84 | 26 => 85 | 27 => 86 | 28 => 87 | 29 => 88 | 30 => 45 | 31 => 90 | n => n, fun | 26 => 3 | 28 => 66 | 24 => 22 | 0 => 0 | 3 => 3 | 37 => 69 | 48 => 101 | 50 => 103 | 4 => 4 | 40 => 94 | 39 => 93 | 45 => 52 | 5 => 5 | 9 => 9 | 51 => 118 | 55 => 122 | 57 => 125 | 58 => 126 | 33 => 75 | n => n, fun | n => n⟩
theorem Try.lay28 : Go.Proofs.SlLaysZI.n6 Try.prog Try.lay28_ren := {
 mixed := by kernel_rfl
 f6 := ⟨Try.f28.name, by decide, Try.func28.trans (congrArg some (by kernel_rfl))⟩
 f8 := ⟨Try.f39.name, by decide, Try.func39.trans (congrArg some (by kernel_rfl))⟩
 f11 := ⟨Try.f52.name, by decide, Try.func52.trans (congrArg some (by kernel_rfl))⟩
 t0 := Try.underlying0
 a0 := Try.isAgg0
 z0 := Try.sizeOf0
 v0 := Try.zeroValue0
 t24 := Try.underlying22
 a24 := Try.isAgg22
 z24 := Try.sizeOf22
 v24 := Try.zeroValue22
 t26 := Try.underlying3
 a26 := Try.isAgg3
 z26 := Try.sizeOf3
 v26 := Try.zeroValue3
 t28 := Try.underlying66
 a28 := Try.isAgg66
 z28 := Try.sizeOf66
 v28 := Try.zeroValue66
 i26 := by kernel_rfl }
end Go.Proofs
end
