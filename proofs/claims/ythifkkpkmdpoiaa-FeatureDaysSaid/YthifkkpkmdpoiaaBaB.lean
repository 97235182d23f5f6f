/- The types of the program, its sorts and their contracts: no condition. -/
import Derived.Test.YthifkkpkmdpoiaaAbC
import Derived.Test.YthifkkpkmdpoiaaBaA
import Derived.Test.YthifkkpkmdpoiaaAbD
set_option linter.unusedVariables false
set_option linter.unusedSimpArgs false
section
namespace Go.Ab
open Go.Proofs
theorem sortI_spec {x r : List Int} (h : sortI x = some r) : FSpec Try.prog 40 [.v (.c (.own 0))] [(0, AO (α := Int) x)] .any [(0, AO (α := Int) r)] := sortI_FSpec Try.lay40 h
theorem sortF_spec {x : List Span} {q : Span → Span → Option Int} {r : List Span} (h : sortF x q = some r) : FSpec Try.prog 82 [.v (.c (.own 0)), .v (.c (.sem (CloOK Try.prog (FR_Span_Span_Int q))))] [(0, AO (α := Span) x)] .any [(0, AO (α := Span) r)] :=
 sortF_FSpec prog_lay Try.lay82 (fun _ => rfl) (te := ⟨.struct [(0, 3), (1, 3)], 2, 16, [.d (.int .i64 0), .d (.int .i64 0)]⟩) (by kernel_rfl) rfl rfl FR_Span_Span_Int (fun q x y z hq => ⟨x, y, z, hq, rfl, rfl⟩) h
theorem keys_spec {ks : List Int} : FSpec Try.prog 29 [ow 0] [(0, .ext (mapP Try.prog 3 4 ks))] (.v (.c (.clo 41 [101]))) [(0, .ext (mapP Try.prog 3 4 ks)), (101, bx [.own 0])] := keys_FSpec Try.lay29
theorem sorted_spec {ks r : List Int} (h : keysM ks = some r) : FSpec0 Try.prog 28 [.v (.c (.clo 41 [1]))] [(0, .ext (mapP Try.prog 3 4 ks)), (1, bx [.own 0])] (ow 100) [(0, .ext (mapP Try.prog 3 4 ks)), (1, bx [.own 0]), (100, AO (α := Int) r)] :=
 sorted_FSpec0 Try.lay28 Try.lay29 Try.lay40 rfl rfl h
end Go.Ab
end
