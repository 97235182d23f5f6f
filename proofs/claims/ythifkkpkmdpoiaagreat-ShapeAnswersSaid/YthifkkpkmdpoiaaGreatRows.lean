/-
  No cell of these rows narrows 'for every input' (looked for: loops, veiled, ifaces, maps, wideKeys, modest, calm, conditions, laid).
  DERIVED. THE GIVEN ROWS OF THIS SEAT. 9 by the template 'for every input the law returns true; each argument reads behind the call as it read before'; 0 by the template 'total and deterministic' (their statements: YthifkkpkmdpoiaaGreatTotals.lean).
  GIVEN WITH THE SEED: the statements are not yours to turn. If you find one false, say at which input.
  Laid BY PROGRAM, IN A SANDBOX (cutbox-rows.mjs): the forced cells as the released guide's own fill.sh prints them over the translation b7ede31245079fc0… (all of the seat's roots in one cut). By AI agents, Wed Nov 11 2026. No macro, syntax, notation, axiom, sorry.
-/
import Derived.Test.YthifkkpkmdpoiaaGreatChecked
import GoSem.Claim
import GoSem.ClaimJoined
import GoSem.ClaimMapViews
import Derived.JoinedTies
import Derived.KernelRfl
namespace Go.Proofs.YthifkkpkmdpoiaaGreat
/- THE CELL 'sum', in the pinned program and in every row, IS THE sha256 OF THE DUMP (.gsa) THAT YthifkkpkmdpoiaaGreatProg.lean LOADS. Nothing in Lean hashes anything: it is a label: what it is worth is what the hold of that sum in a sandbox is worth. -/
noncomputable def Tryz.pinned : Pinned := { name := "ythifkkpkmdpoiaagreat", sum := "b7ede31245079fc02e271a9c817fb7da22b430383445a509a74ac231af1391fb", checked := Tryz.checked }
namespace Rows
def none {H : Type} : Left H := { results := [], args := [] }

/-- 'landaidlaw06.ShapeParts': WHATEVER THE INPUT: true; the input reads as it did. -/
def shapePartsSpec : ChangeSpec := { name := "shapeParts", fn := fun _ => fun
  | [d] => { results := [.lit (.bool true)], args := [d] }
  | _ => none }
def shapePartsRow : OpenClaim := { program := "ythifkkpkmdpoiaagreat", sum := "b7ede31245079fc02e271a9c817fb7da22b430383445a509a74ac231af1391fb", func := "landaid/landaidlaw06.ShapeParts", spec := "shapeParts", unfollowed := true, recurses := true, apart := false }
def ShapePartsSaid : Prop := shapePartsRow.holds Tryz.pinned (OpenSpec.ofChange shapePartsSpec)

/-- ITS FALSE NEIGHBOUR: 'it returns false'. Refute it at one input. -/
def shapePartsWrong : ChangeSpec := { name := "shapeParts", fn := fun _ => fun
  | [d] => { results := [.lit (.bool false)], args := [d] }
  | _ => none }
def ShapePartsWrongFalsely : Prop := shapePartsRow.holds Tryz.pinned (OpenSpec.ofChange shapePartsWrong)

/-- 'landaidlaw06.ShapeMoves': WHATEVER THE INPUT: true; the input reads as it did. -/
def shapeMovesSpec : ChangeSpec := { name := "shapeMoves", fn := fun _ => fun
  | [d1, d2, d3] => { results := [.lit (.bool true)], args := [d1, d2, d3] }
  | _ => none }
def shapeMovesRow : OpenClaim := { program := "ythifkkpkmdpoiaagreat", sum := "b7ede31245079fc02e271a9c817fb7da22b430383445a509a74ac231af1391fb", func := "landaid/landaidlaw06.ShapeMoves", spec := "shapeMoves", unfollowed := true, recurses := true, apart := false }
def ShapeMovesSaid : Prop := shapeMovesRow.holds Tryz.pinned (OpenSpec.ofChange shapeMovesSpec)

/-- ITS FALSE NEIGHBOUR: 'it returns false'. Refute it at one input. -/
def shapeMovesWrong : ChangeSpec := { name := "shapeMoves", fn := fun _ => fun
  | [d1, d2, d3] => { results := [.lit (.bool false)], args := [d1, d2, d3] }
  | _ => none }
def ShapeMovesWrongFalsely : Prop := shapeMovesRow.holds Tryz.pinned (OpenSpec.ofChange shapeMovesWrong)

/-- 'landaidlaw09.FeatureKinds': WHATEVER THE INPUT: true; the input reads as it did. -/
def featureKindsSpec : ChangeSpec := { name := "featureKinds", fn := fun _ => fun
  | [d1, d2, d3] => { results := [.lit (.bool true)], args := [d1, d2, d3] }
  | _ => none }
def featureKindsRow : OpenClaim := { program := "ythifkkpkmdpoiaagreat", sum := "b7ede31245079fc02e271a9c817fb7da22b430383445a509a74ac231af1391fb", func := "landaid/landaidlaw09.FeatureKinds", spec := "featureKinds", unfollowed := true, recurses := true, apart := false }
def FeatureKindsSaid : Prop := featureKindsRow.holds Tryz.pinned (OpenSpec.ofChange featureKindsSpec)

/-- ITS FALSE NEIGHBOUR: 'it returns false'. Refute it at one input. -/
def featureKindsWrong : ChangeSpec := { name := "featureKinds", fn := fun _ => fun
  | [d1, d2, d3] => { results := [.lit (.bool false)], args := [d1, d2, d3] }
  | _ => none }
def FeatureKindsWrongFalsely : Prop := featureKindsRow.holds Tryz.pinned (OpenSpec.ofChange featureKindsWrong)

/-- 'landaidlaw15.HistorySquares': WHATEVER THE INPUT: true; the input reads as it did. -/
def historySquaresSpec : ChangeSpec := { name := "historySquares", fn := fun _ => fun
  | [d] => { results := [.lit (.bool true)], args := [d] }
  | _ => none }
def historySquaresRow : OpenClaim := { program := "ythifkkpkmdpoiaagreat", sum := "b7ede31245079fc02e271a9c817fb7da22b430383445a509a74ac231af1391fb", func := "landaid/landaidlaw15.HistorySquares", spec := "historySquares", unfollowed := true, recurses := true, apart := false }
def HistorySquaresSaid : Prop := historySquaresRow.holds Tryz.pinned (OpenSpec.ofChange historySquaresSpec)

/-- ITS FALSE NEIGHBOUR: 'it returns false'. Refute it at one input. -/
def historySquaresWrong : ChangeSpec := { name := "historySquares", fn := fun _ => fun
  | [d] => { results := [.lit (.bool false)], args := [d] }
  | _ => none }
def HistorySquaresWrongFalsely : Prop := historySquaresRow.holds Tryz.pinned (OpenSpec.ofChange historySquaresWrong)

/-- 'landaidlaw06.ShapeGrows': WHATEVER THE INPUT: true; the input reads as it did. -/
def shapeGrowsSpec : ChangeSpec := { name := "shapeGrows", fn := fun _ => fun
  | [d1, d2] => { results := [.lit (.bool true)], args := [d1, d2] }
  | _ => none }
def shapeGrowsRow : OpenClaim := { program := "ythifkkpkmdpoiaagreat", sum := "b7ede31245079fc02e271a9c817fb7da22b430383445a509a74ac231af1391fb", func := "landaid/landaidlaw06.ShapeGrows", spec := "shapeGrows", unfollowed := true, recurses := true, apart := false }
def ShapeGrowsSaid : Prop := shapeGrowsRow.holds Tryz.pinned (OpenSpec.ofChange shapeGrowsSpec)

/-- ITS FALSE NEIGHBOUR: 'it returns false'. Refute it at one input. -/
def shapeGrowsWrong : ChangeSpec := { name := "shapeGrows", fn := fun _ => fun
  | [d1, d2] => { results := [.lit (.bool false)], args := [d1, d2] }
  | _ => none }
def ShapeGrowsWrongFalsely : Prop := shapeGrowsRow.holds Tryz.pinned (OpenSpec.ofChange shapeGrowsWrong)

/-- 'landaidlaw06.ShapeOpens': WHATEVER THE INPUT: true; the input reads as it did. -/
def shapeOpensSpec : ChangeSpec := { name := "shapeOpens", fn := fun _ => fun
  | [d1, d2, d3] => { results := [.lit (.bool true)], args := [d1, d2, d3] }
  | _ => none }
def shapeOpensRow : OpenClaim := { program := "ythifkkpkmdpoiaagreat", sum := "b7ede31245079fc02e271a9c817fb7da22b430383445a509a74ac231af1391fb", func := "landaid/landaidlaw06.ShapeOpens", spec := "shapeOpens", unfollowed := true, recurses := true, apart := false }
def ShapeOpensSaid : Prop := shapeOpensRow.holds Tryz.pinned (OpenSpec.ofChange shapeOpensSpec)

/-- ITS FALSE NEIGHBOUR: 'it returns false'. Refute it at one input. -/
def shapeOpensWrong : ChangeSpec := { name := "shapeOpens", fn := fun _ => fun
  | [d1, d2, d3] => { results := [.lit (.bool false)], args := [d1, d2, d3] }
  | _ => none }
def ShapeOpensWrongFalsely : Prop := shapeOpensRow.holds Tryz.pinned (OpenSpec.ofChange shapeOpensWrong)

/-- 'landaidlaw20.GrasslandPermanent': WHATEVER THE INPUT: true; the input reads as it did. -/
def grasslandPermanentSpec : ChangeSpec := { name := "grasslandPermanent", fn := fun _ => fun
  | [d1, d2] => { results := [.lit (.bool true)], args := [d1, d2] }
  | _ => none }
def grasslandPermanentRow : OpenClaim := { program := "ythifkkpkmdpoiaagreat", sum := "b7ede31245079fc02e271a9c817fb7da22b430383445a509a74ac231af1391fb", func := "landaid/landaidlaw20.GrasslandPermanent", spec := "grasslandPermanent", unfollowed := true, recurses := true, apart := false }
def GrasslandPermanentSaid : Prop := grasslandPermanentRow.holds Tryz.pinned (OpenSpec.ofChange grasslandPermanentSpec)

/-- ITS FALSE NEIGHBOUR: 'it returns false'. Refute it at one input. -/
def grasslandPermanentWrong : ChangeSpec := { name := "grasslandPermanent", fn := fun _ => fun
  | [d1, d2] => { results := [.lit (.bool false)], args := [d1, d2] }
  | _ => none }
def GrasslandPermanentWrongFalsely : Prop := grasslandPermanentRow.holds Tryz.pinned (OpenSpec.ofChange grasslandPermanentWrong)

/-- 'landaidlaw20.GrasslandRatios': WHATEVER THE INPUT: true; the input reads as it did. -/
def grasslandRatiosSpec : ChangeSpec := { name := "grasslandRatios", fn := fun _ => fun
  | [d1, d2] => { results := [.lit (.bool true)], args := [d1, d2] }
  | _ => none }
def grasslandRatiosRow : OpenClaim := { program := "ythifkkpkmdpoiaagreat", sum := "b7ede31245079fc02e271a9c817fb7da22b430383445a509a74ac231af1391fb", func := "landaid/landaidlaw20.GrasslandRatios", spec := "grasslandRatios", unfollowed := true, recurses := true, apart := false }
def GrasslandRatiosSaid : Prop := grasslandRatiosRow.holds Tryz.pinned (OpenSpec.ofChange grasslandRatiosSpec)

/-- ITS FALSE NEIGHBOUR: 'it returns false'. Refute it at one input. -/
def grasslandRatiosWrong : ChangeSpec := { name := "grasslandRatios", fn := fun _ => fun
  | [d1, d2] => { results := [.lit (.bool false)], args := [d1, d2] }
  | _ => none }
def GrasslandRatiosWrongFalsely : Prop := grasslandRatiosRow.holds Tryz.pinned (OpenSpec.ofChange grasslandRatiosWrong)

/-- 'landaidlaw06.ShapeAnswers': WHATEVER THE INPUT: true; the input reads as it did. -/
def shapeAnswersSpec : ChangeSpec := { name := "shapeAnswers", fn := fun _ => fun
  | [d1, d2, d3, d4, d5, d6] => { results := [.lit (.bool true)], args := [d1, d2, d3, d4, d5, d6] }
  | _ => none }
def shapeAnswersRow : OpenClaim := { program := "ythifkkpkmdpoiaagreat", sum := "b7ede31245079fc02e271a9c817fb7da22b430383445a509a74ac231af1391fb", func := "landaid/landaidlaw06.ShapeAnswers", spec := "shapeAnswers", unfollowed := true, recurses := true, apart := false }
def ShapeAnswersSaid : Prop := shapeAnswersRow.holds Tryz.pinned (OpenSpec.ofChange shapeAnswersSpec)

/-- ITS FALSE NEIGHBOUR: 'it returns false'. Refute it at one input. -/
def shapeAnswersWrong : ChangeSpec := { name := "shapeAnswers", fn := fun _ => fun
  | [d1, d2, d3, d4, d5, d6] => { results := [.lit (.bool false)], args := [d1, d2, d3, d4, d5, d6] }
  | _ => none }
def ShapeAnswersWrongFalsely : Prop := shapeAnswersRow.holds Tryz.pinned (OpenSpec.ofChange shapeAnswersWrong)

/- THE SECOND FORM. 'bulk': how many values and letters a reading holds, each counted each time it is reached (what is shared counts as often as it is met; a slice's spare places count too). A statement '..UptoSaid' is the law's where the arguments, and the package variables that the reading takes, are together of bulk at most 1048576: NARROWER than '..Said'. Prove '..Said' where nothing that the law and all that it calls make is longer than what came in: it says more and counts as full. Else prove '..UptoSaid'. A law counts once. -/
mutual
def uptoBulk {H : Type} : DataW H → Nat
  | .lit (.string bytes) => bytes.length + 1
  | .lit _ => 1
  | .nil => 1
  | .ptr d => uptoBulk d + 1
  | .slice elems spare => uptoBulkAll elems + uptoBulkAll spare + 1
  | .agg parts => uptoBulkAll parts + 1
  | .iface _ d => uptoBulk d + 1
  | .map entries => uptoBulkEntries entries + 1
  | .held _ => 1
def uptoBulkAll {H : Type} : List (DataW H) → Nat
  | [] => 0
  | d :: r => uptoBulk d + uptoBulkAll r
def uptoBulkEntries {H : Type} : List (Lit × DataW H) → Nat
  | [] => 0
  | x :: r => uptoBulkEntry x + uptoBulkEntries r
def uptoBulkEntry {H : Type} : Lit × DataW H → Nat
  | (.string bytes, d) => bytes.length + uptoBulk d + 1
  | (_, d) => uptoBulk d + 1
 end
def uptoSmall : (H : Type) → List (DataW H) → Bool := fun _ ds => decide (uptoBulkAll ds ≤ 1048576)
def OpenSpec.upto (s : _root_.Go.ChangeSpec) : _root_.Go.OpenSpec := { _root_.Go.OpenSpec.ofChange s with cond := some uptoSmall }

/-- 'landaidlaw06.ShapeParts', WHERE WHAT IT READS IS OF BULK AT MOST 1048576: true; the input reads as it did. -/
def shapePartsUptoRow : OpenClaim := { program := "ythifkkpkmdpoiaagreat", sum := "b7ede31245079fc02e271a9c817fb7da22b430383445a509a74ac231af1391fb", func := "landaid/landaidlaw06.ShapeParts", spec := "shapeParts", unfollowed := true, recurses := true, apart := false, narrowed := true }
def ShapePartsUptoSaid : Prop := shapePartsUptoRow.holds Tryz.pinned (OpenSpec.upto shapePartsSpec)

/-- 'landaidlaw06.ShapeMoves', WHERE WHAT IT READS IS OF BULK AT MOST 1048576: true; the input reads as it did. -/
def shapeMovesUptoRow : OpenClaim := { program := "ythifkkpkmdpoiaagreat", sum := "b7ede31245079fc02e271a9c817fb7da22b430383445a509a74ac231af1391fb", func := "landaid/landaidlaw06.ShapeMoves", spec := "shapeMoves", unfollowed := true, recurses := true, apart := false, narrowed := true }
def ShapeMovesUptoSaid : Prop := shapeMovesUptoRow.holds Tryz.pinned (OpenSpec.upto shapeMovesSpec)

/-- 'landaidlaw09.FeatureKinds', WHERE WHAT IT READS IS OF BULK AT MOST 1048576: true; the input reads as it did. -/
def featureKindsUptoRow : OpenClaim := { program := "ythifkkpkmdpoiaagreat", sum := "b7ede31245079fc02e271a9c817fb7da22b430383445a509a74ac231af1391fb", func := "landaid/landaidlaw09.FeatureKinds", spec := "featureKinds", unfollowed := true, recurses := true, apart := false, narrowed := true }
def FeatureKindsUptoSaid : Prop := featureKindsUptoRow.holds Tryz.pinned (OpenSpec.upto featureKindsSpec)

/-- 'landaidlaw15.HistorySquares', WHERE WHAT IT READS IS OF BULK AT MOST 1048576: true; the input reads as it did. -/
def historySquaresUptoRow : OpenClaim := { program := "ythifkkpkmdpoiaagreat", sum := "b7ede31245079fc02e271a9c817fb7da22b430383445a509a74ac231af1391fb", func := "landaid/landaidlaw15.HistorySquares", spec := "historySquares", unfollowed := true, recurses := true, apart := false, narrowed := true }
def HistorySquaresUptoSaid : Prop := historySquaresUptoRow.holds Tryz.pinned (OpenSpec.upto historySquaresSpec)

/-- 'landaidlaw06.ShapeGrows', WHERE WHAT IT READS IS OF BULK AT MOST 1048576: true; the input reads as it did. -/
def shapeGrowsUptoRow : OpenClaim := { program := "ythifkkpkmdpoiaagreat", sum := "b7ede31245079fc02e271a9c817fb7da22b430383445a509a74ac231af1391fb", func := "landaid/landaidlaw06.ShapeGrows", spec := "shapeGrows", unfollowed := true, recurses := true, apart := false, narrowed := true }
def ShapeGrowsUptoSaid : Prop := shapeGrowsUptoRow.holds Tryz.pinned (OpenSpec.upto shapeGrowsSpec)

/-- 'landaidlaw06.ShapeOpens', WHERE WHAT IT READS IS OF BULK AT MOST 1048576: true; the input reads as it did. -/
def shapeOpensUptoRow : OpenClaim := { program := "ythifkkpkmdpoiaagreat", sum := "b7ede31245079fc02e271a9c817fb7da22b430383445a509a74ac231af1391fb", func := "landaid/landaidlaw06.ShapeOpens", spec := "shapeOpens", unfollowed := true, recurses := true, apart := false, narrowed := true }
def ShapeOpensUptoSaid : Prop := shapeOpensUptoRow.holds Tryz.pinned (OpenSpec.upto shapeOpensSpec)

/-- 'landaidlaw20.GrasslandPermanent', WHERE WHAT IT READS IS OF BULK AT MOST 1048576: true; the input reads as it did. -/
def grasslandPermanentUptoRow : OpenClaim := { program := "ythifkkpkmdpoiaagreat", sum := "b7ede31245079fc02e271a9c817fb7da22b430383445a509a74ac231af1391fb", func := "landaid/landaidlaw20.GrasslandPermanent", spec := "grasslandPermanent", unfollowed := true, recurses := true, apart := false, narrowed := true }
def GrasslandPermanentUptoSaid : Prop := grasslandPermanentUptoRow.holds Tryz.pinned (OpenSpec.upto grasslandPermanentSpec)

/-- 'landaidlaw20.GrasslandRatios', WHERE WHAT IT READS IS OF BULK AT MOST 1048576: true; the input reads as it did. -/
def grasslandRatiosUptoRow : OpenClaim := { program := "ythifkkpkmdpoiaagreat", sum := "b7ede31245079fc02e271a9c817fb7da22b430383445a509a74ac231af1391fb", func := "landaid/landaidlaw20.GrasslandRatios", spec := "grasslandRatios", unfollowed := true, recurses := true, apart := false, narrowed := true }
def GrasslandRatiosUptoSaid : Prop := grasslandRatiosUptoRow.holds Tryz.pinned (OpenSpec.upto grasslandRatiosSpec)

/-- 'landaidlaw06.ShapeAnswers', WHERE WHAT IT READS IS OF BULK AT MOST 1048576: true; the input reads as it did. -/
def shapeAnswersUptoRow : OpenClaim := { program := "ythifkkpkmdpoiaagreat", sum := "b7ede31245079fc02e271a9c817fb7da22b430383445a509a74ac231af1391fb", func := "landaid/landaidlaw06.ShapeAnswers", spec := "shapeAnswers", unfollowed := true, recurses := true, apart := false, narrowed := true }
def ShapeAnswersUptoSaid : Prop := shapeAnswersUptoRow.holds Tryz.pinned (OpenSpec.upto shapeAnswersSpec)

end Rows
end Go.Proofs.YthifkkpkmdpoiaaGreat
