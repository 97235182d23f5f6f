/-
  No cell of these rows narrows 'for every input' (looked for: loops, veiled, ifaces, maps, wideKeys, modest, calm, conditions, laid).
  DERIVED. THE GIVEN ROWS OF THIS SEAT. 10 by the template 'for every input the law returns true; each argument reads behind the call as it read before'; 0 by the template 'total and deterministic' (their statements: YtdfbifjpedjljaaGreatTotals.lean).
  GIVEN WITH THE SEED: the statements are not yours to turn. If you find one false, say at which input.
  Laid BY PROGRAM, IN A SANDBOX (cutbox-rows.mjs): the forced cells as the released guide's own fill.sh prints them over the translation 6139e95c2c3abc24… (all of the seat's roots in one cut). By AI agents, Wed Nov 11 2026. No macro, syntax, notation, axiom, sorry.
-/
import Derived.Test.YtdfbifjpedjljaaGreatChecked
import GoSem.Claim
import GoSem.ClaimJoined
import GoSem.ClaimMapViews
import Derived.JoinedTies
import Derived.KernelRfl
namespace Go.Proofs.YtdfbifjpedjljaaGreat
/- THE CELL 'sum', in the pinned program and in every row, IS THE sha256 OF THE DUMP (.gsa) THAT YtdfbifjpedjljaaGreatProg.lean LOADS. Nothing in Lean hashes anything: it is a label: what it is worth is what the hold of that sum in a sandbox is worth. -/
noncomputable def Tryz.pinned : Pinned := { name := "ytdfbifjpedjljaagreat", sum := "6139e95c2c3abc24201e3df58ca0991145c7827bc6bd2f4b67153f53bca8f060", checked := Tryz.checked }
namespace Rows
def none {H : Type} : Left H := { results := [], args := [] }

/-- 'landaidlaw15.HistorySquares': WHATEVER THE INPUT: true; the input reads as it did. -/
def historySquaresSpec : ChangeSpec := { name := "historySquares", fn := fun _ => fun
  | [d] => { results := [.lit (.bool true)], args := [d] }
  | _ => none }
def historySquaresRow : OpenClaim := { program := "ytdfbifjpedjljaagreat", sum := "6139e95c2c3abc24201e3df58ca0991145c7827bc6bd2f4b67153f53bca8f060", func := "landaid/landaidlaw15.HistorySquares", spec := "historySquares", unfollowed := true, recurses := true, apart := false }
def HistorySquaresSaid : Prop := historySquaresRow.holds Tryz.pinned (OpenSpec.ofChange historySquaresSpec)

/-- ITS FALSE NEIGHBOUR: 'it returns false'. Refute it at one input. -/
def historySquaresWrong : ChangeSpec := { name := "historySquares", fn := fun _ => fun
  | [d] => { results := [.lit (.bool false)], args := [d] }
  | _ => none }
def HistorySquaresWrongFalsely : Prop := historySquaresRow.holds Tryz.pinned (OpenSpec.ofChange historySquaresWrong)

/-- 'landaidlaw15.HistoryAnswers': WHATEVER THE INPUT: true; the input reads as it did. -/
def historyAnswersSpec : ChangeSpec := { name := "historyAnswers", fn := fun _ => fun
  | [d1, d2, d3, d4, d5, d6, d7] => { results := [.lit (.bool true)], args := [d1, d2, d3, d4, d5, d6, d7] }
  | _ => none }
def historyAnswersRow : OpenClaim := { program := "ytdfbifjpedjljaagreat", sum := "6139e95c2c3abc24201e3df58ca0991145c7827bc6bd2f4b67153f53bca8f060", func := "landaid/landaidlaw15.HistoryAnswers", spec := "historyAnswers", unfollowed := true, recurses := true, apart := false }
def HistoryAnswersSaid : Prop := historyAnswersRow.holds Tryz.pinned (OpenSpec.ofChange historyAnswersSpec)

/-- ITS FALSE NEIGHBOUR: 'it returns false'. Refute it at one input. -/
def historyAnswersWrong : ChangeSpec := { name := "historyAnswers", fn := fun _ => fun
  | [d1, d2, d3, d4, d5, d6, d7] => { results := [.lit (.bool false)], args := [d1, d2, d3, d4, d5, d6, d7] }
  | _ => none }
def HistoryAnswersWrongFalsely : Prop := historyAnswersRow.holds Tryz.pinned (OpenSpec.ofChange historyAnswersWrong)

/-- 'landaidlaw09.FeatureAnswers': WHATEVER THE INPUT: true; the input reads as it did. -/
def featureAnswersSpec : ChangeSpec := { name := "featureAnswers", fn := fun _ => fun
  | [d1, d2, d3, d4, d5] => { results := [.lit (.bool true)], args := [d1, d2, d3, d4, d5] }
  | _ => none }
def featureAnswersRow : OpenClaim := { program := "ytdfbifjpedjljaagreat", sum := "6139e95c2c3abc24201e3df58ca0991145c7827bc6bd2f4b67153f53bca8f060", func := "landaid/landaidlaw09.FeatureAnswers", spec := "featureAnswers", inPlace := ["slices.overlaps[landaid/api.Feature]"], unfollowed := true, recurses := true, apart := false }
def FeatureAnswersSaid : Prop := featureAnswersRow.holds Tryz.pinned (OpenSpec.ofChange featureAnswersSpec)

/-- ITS FALSE NEIGHBOUR: 'it returns false'. Refute it at one input. -/
def featureAnswersWrong : ChangeSpec := { name := "featureAnswers", fn := fun _ => fun
  | [d1, d2, d3, d4, d5] => { results := [.lit (.bool false)], args := [d1, d2, d3, d4, d5] }
  | _ => none }
def FeatureAnswersWrongFalsely : Prop := featureAnswersRow.holds Tryz.pinned (OpenSpec.ofChange featureAnswersWrong)

/-- 'landaidlaw20.GrasslandPloughed': WHATEVER THE INPUT: true; the input reads as it did. -/
def grasslandPloughedSpec : ChangeSpec := { name := "grasslandPloughed", fn := fun _ => fun
  | [d1, d2, d3] => { results := [.lit (.bool true)], args := [d1, d2, d3] }
  | _ => none }
def grasslandPloughedRow : OpenClaim := { program := "ytdfbifjpedjljaagreat", sum := "6139e95c2c3abc24201e3df58ca0991145c7827bc6bd2f4b67153f53bca8f060", func := "landaid/landaidlaw20.GrasslandPloughed", spec := "grasslandPloughed", unfollowed := true, recurses := true, named := ["math/bits.divideError", "math/bits.overflowError"], apart := false }
def GrasslandPloughedSaid : Prop := grasslandPloughedRow.holds Tryz.pinned (OpenSpec.ofChange grasslandPloughedSpec)

/-- ITS FALSE NEIGHBOUR: 'it returns false'. Refute it at one input. -/
def grasslandPloughedWrong : ChangeSpec := { name := "grasslandPloughed", fn := fun _ => fun
  | [d1, d2, d3] => { results := [.lit (.bool false)], args := [d1, d2, d3] }
  | _ => none }
def GrasslandPloughedWrongFalsely : Prop := grasslandPloughedRow.holds Tryz.pinned (OpenSpec.ofChange grasslandPloughedWrong)

/-- 'landaidlaw20.GrasslandAnswers': WHATEVER THE INPUT: true; the input reads as it did. -/
def grasslandAnswersSpec : ChangeSpec := { name := "grasslandAnswers", fn := fun _ => fun
  | [d1, d2, d3, d4, d5, d6] => { results := [.lit (.bool true)], args := [d1, d2, d3, d4, d5, d6] }
  | _ => none }
def grasslandAnswersRow : OpenClaim := { program := "ytdfbifjpedjljaagreat", sum := "6139e95c2c3abc24201e3df58ca0991145c7827bc6bd2f4b67153f53bca8f060", func := "landaid/landaidlaw20.GrasslandAnswers", spec := "grasslandAnswers", unfollowed := true, recurses := true, named := ["math/bits.divideError", "math/bits.overflowError"], apart := false }
def GrasslandAnswersSaid : Prop := grasslandAnswersRow.holds Tryz.pinned (OpenSpec.ofChange grasslandAnswersSpec)

/-- ITS FALSE NEIGHBOUR: 'it returns false'. Refute it at one input. -/
def grasslandAnswersWrong : ChangeSpec := { name := "grasslandAnswers", fn := fun _ => fun
  | [d1, d2, d3, d4, d5, d6] => { results := [.lit (.bool false)], args := [d1, d2, d3, d4, d5, d6] }
  | _ => none }
def GrasslandAnswersWrongFalsely : Prop := grasslandAnswersRow.holds Tryz.pinned (OpenSpec.ofChange grasslandAnswersWrong)

/-- 'landaidlaw19.RotationFamilies': WHATEVER THE INPUT: true; the input reads as it did. -/
def rotationFamiliesSpec : ChangeSpec := { name := "rotationFamilies", fn := fun _ => fun
  | [d1, d2] => { results := [.lit (.bool true)], args := [d1, d2] }
  | _ => none }
def rotationFamiliesRow : OpenClaim := { program := "ytdfbifjpedjljaagreat", sum := "6139e95c2c3abc24201e3df58ca0991145c7827bc6bd2f4b67153f53bca8f060", func := "landaid/landaidlaw19.RotationFamilies", spec := "rotationFamilies", inPlace := ["internal/reflectlite.ValueOf", "internal/reflectlite.Swapper", "(internal/reflectlite.Value).Len"], unfollowed := true, recurses := true, apart := false }
def RotationFamiliesSaid : Prop := rotationFamiliesRow.holds Tryz.pinned (OpenSpec.ofChange rotationFamiliesSpec)

/-- ITS FALSE NEIGHBOUR: 'it returns false'. Refute it at one input. -/
def rotationFamiliesWrong : ChangeSpec := { name := "rotationFamilies", fn := fun _ => fun
  | [d1, d2] => { results := [.lit (.bool false)], args := [d1, d2] }
  | _ => none }
def RotationFamiliesWrongFalsely : Prop := rotationFamiliesRow.holds Tryz.pinned (OpenSpec.ofChange rotationFamiliesWrong)

/-- 'landaidlaw19.RotationSmall': WHATEVER THE INPUT: true; the input reads as it did. -/
def rotationSmallSpec : ChangeSpec := { name := "rotationSmall", fn := fun _ => fun
  | [d1, d2, d3, d4, d5] => { results := [.lit (.bool true)], args := [d1, d2, d3, d4, d5] }
  | _ => none }
def rotationSmallRow : OpenClaim := { program := "ytdfbifjpedjljaagreat", sum := "6139e95c2c3abc24201e3df58ca0991145c7827bc6bd2f4b67153f53bca8f060", func := "landaid/landaidlaw19.RotationSmall", spec := "rotationSmall", inPlace := ["internal/reflectlite.ValueOf", "internal/reflectlite.Swapper", "(internal/reflectlite.Value).Len"], unfollowed := true, recurses := true, apart := false }
def RotationSmallSaid : Prop := rotationSmallRow.holds Tryz.pinned (OpenSpec.ofChange rotationSmallSpec)

/-- ITS FALSE NEIGHBOUR: 'it returns false'. Refute it at one input. -/
def rotationSmallWrong : ChangeSpec := { name := "rotationSmall", fn := fun _ => fun
  | [d1, d2, d3, d4, d5] => { results := [.lit (.bool false)], args := [d1, d2, d3, d4, d5] }
  | _ => none }
def RotationSmallWrongFalsely : Prop := rotationSmallRow.holds Tryz.pinned (OpenSpec.ofChange rotationSmallWrong)

/-- 'landaidlaw19.RotationRepeats': WHATEVER THE INPUT: true; the input reads as it did. -/
def rotationRepeatsSpec : ChangeSpec := { name := "rotationRepeats", fn := fun _ => fun
  | [d1, d2, d3] => { results := [.lit (.bool true)], args := [d1, d2, d3] }
  | _ => none }
def rotationRepeatsRow : OpenClaim := { program := "ytdfbifjpedjljaagreat", sum := "6139e95c2c3abc24201e3df58ca0991145c7827bc6bd2f4b67153f53bca8f060", func := "landaid/landaidlaw19.RotationRepeats", spec := "rotationRepeats", inPlace := ["internal/reflectlite.ValueOf", "internal/reflectlite.Swapper", "(internal/reflectlite.Value).Len"], unfollowed := true, recurses := true, apart := false }
def RotationRepeatsSaid : Prop := rotationRepeatsRow.holds Tryz.pinned (OpenSpec.ofChange rotationRepeatsSpec)

/-- ITS FALSE NEIGHBOUR: 'it returns false'. Refute it at one input. -/
def rotationRepeatsWrong : ChangeSpec := { name := "rotationRepeats", fn := fun _ => fun
  | [d1, d2, d3] => { results := [.lit (.bool false)], args := [d1, d2, d3] }
  | _ => none }
def RotationRepeatsWrongFalsely : Prop := rotationRepeatsRow.holds Tryz.pinned (OpenSpec.ofChange rotationRepeatsWrong)

/-- 'landaidlaw19.RotationAnswers': WHATEVER THE INPUT: true; the input reads as it did. -/
def rotationAnswersSpec : ChangeSpec := { name := "rotationAnswers", fn := fun _ => fun
  | [d1, d2, d3, d4, d5, d6] => { results := [.lit (.bool true)], args := [d1, d2, d3, d4, d5, d6] }
  | _ => none }
def rotationAnswersRow : OpenClaim := { program := "ytdfbifjpedjljaagreat", sum := "6139e95c2c3abc24201e3df58ca0991145c7827bc6bd2f4b67153f53bca8f060", func := "landaid/landaidlaw19.RotationAnswers", spec := "rotationAnswers", inPlace := ["internal/reflectlite.ValueOf", "internal/reflectlite.Swapper", "(internal/reflectlite.Value).Len"], unfollowed := true, recurses := true, apart := false }
def RotationAnswersSaid : Prop := rotationAnswersRow.holds Tryz.pinned (OpenSpec.ofChange rotationAnswersSpec)

/-- ITS FALSE NEIGHBOUR: 'it returns false'. Refute it at one input. -/
def rotationAnswersWrong : ChangeSpec := { name := "rotationAnswers", fn := fun _ => fun
  | [d1, d2, d3, d4, d5, d6] => { results := [.lit (.bool false)], args := [d1, d2, d3, d4, d5, d6] }
  | _ => none }
def RotationAnswersWrongFalsely : Prop := rotationAnswersRow.holds Tryz.pinned (OpenSpec.ofChange rotationAnswersWrong)

/-- 'landaidlaw19.RotationShares': WHATEVER THE INPUT: true; the input reads as it did. -/
def rotationSharesSpec : ChangeSpec := { name := "rotationShares", fn := fun _ => fun
  | [d1, d2, d3] => { results := [.lit (.bool true)], args := [d1, d2, d3] }
  | _ => none }
def rotationSharesRow : OpenClaim := { program := "ytdfbifjpedjljaagreat", sum := "6139e95c2c3abc24201e3df58ca0991145c7827bc6bd2f4b67153f53bca8f060", func := "landaid/landaidlaw19.RotationShares", spec := "rotationShares", inPlace := ["internal/reflectlite.ValueOf", "internal/reflectlite.Swapper", "(internal/reflectlite.Value).Len"], unfollowed := true, recurses := true, apart := false }
def RotationSharesSaid : Prop := rotationSharesRow.holds Tryz.pinned (OpenSpec.ofChange rotationSharesSpec)

/-- ITS FALSE NEIGHBOUR: 'it returns false'. Refute it at one input. -/
def rotationSharesWrong : ChangeSpec := { name := "rotationShares", fn := fun _ => fun
  | [d1, d2, d3] => { results := [.lit (.bool false)], args := [d1, d2, d3] }
  | _ => none }
def RotationSharesWrongFalsely : Prop := rotationSharesRow.holds Tryz.pinned (OpenSpec.ofChange rotationSharesWrong)

/- THE SECOND FORM. 'bulk': how many values and letters a reading holds, each counted each time it is reached (what is shared counts as often as it is met; a slice's spare places count too). A statement '..UptoSaid' is the law's where the arguments, and the package variables that the reading takes, are together of bulk at most 1048576: NARROWER than '..Said'. Prove '..Said' where nothing that the law and all that it calls make is longer than what came in: it says more and counts as full. Else prove '..UptoSaid'. A law counts once. -/
mutual
def uptoBulk {H : Type} : DataW H → Nat
  | .lit (.string bytes) => bytes.length + 1
  | .lit _ => 1
  | .nil => 1
  | .ptr d => uptoBulk d + 1
  | .slice elems spare => uptoBulkAll elems + uptoBulkAll spare + 1
  | .agg parts => uptoBulkAll parts + 1
  | .iface _ d => uptoBulk d + 1
  | .map entries => uptoBulkEntries entries + 1
  | .held _ => 1
def uptoBulkAll {H : Type} : List (DataW H) → Nat
  | [] => 0
  | d :: r => uptoBulk d + uptoBulkAll r
def uptoBulkEntries {H : Type} : List (Lit × DataW H) → Nat
  | [] => 0
  | x :: r => uptoBulkEntry x + uptoBulkEntries r
def uptoBulkEntry {H : Type} : Lit × DataW H → Nat
  | (.string bytes, d) => bytes.length + uptoBulk d + 1
  | (_, d) => uptoBulk d + 1
 end
def uptoSmall : (H : Type) → List (DataW H) → Bool := fun _ ds => decide (uptoBulkAll ds ≤ 1048576)
def OpenSpec.upto (s : _root_.Go.ChangeSpec) : _root_.Go.OpenSpec := { _root_.Go.OpenSpec.ofChange s with cond := some uptoSmall }

/-- 'landaidlaw15.HistorySquares', WHERE WHAT IT READS IS OF BULK AT MOST 1048576: true; the input reads as it did. -/
def historySquaresUptoRow : OpenClaim := { program := "ytdfbifjpedjljaagreat", sum := "6139e95c2c3abc24201e3df58ca0991145c7827bc6bd2f4b67153f53bca8f060", func := "landaid/landaidlaw15.HistorySquares", spec := "historySquares", unfollowed := true, recurses := true, apart := false, narrowed := true }
def HistorySquaresUptoSaid : Prop := historySquaresUptoRow.holds Tryz.pinned (OpenSpec.upto historySquaresSpec)

/-- 'landaidlaw15.HistoryAnswers', WHERE WHAT IT READS IS OF BULK AT MOST 1048576: true; the input reads as it did. -/
def historyAnswersUptoRow : OpenClaim := { program := "ytdfbifjpedjljaagreat", sum := "6139e95c2c3abc24201e3df58ca0991145c7827bc6bd2f4b67153f53bca8f060", func := "landaid/landaidlaw15.HistoryAnswers", spec := "historyAnswers", unfollowed := true, recurses := true, apart := false, narrowed := true }
def HistoryAnswersUptoSaid : Prop := historyAnswersUptoRow.holds Tryz.pinned (OpenSpec.upto historyAnswersSpec)

/-- 'landaidlaw09.FeatureAnswers', WHERE WHAT IT READS IS OF BULK AT MOST 1048576: true; the input reads as it did. -/
def featureAnswersUptoRow : OpenClaim := { program := "ytdfbifjpedjljaagreat", sum := "6139e95c2c3abc24201e3df58ca0991145c7827bc6bd2f4b67153f53bca8f060", func := "landaid/landaidlaw09.FeatureAnswers", spec := "featureAnswers", inPlace := ["slices.overlaps[landaid/api.Feature]"], unfollowed := true, recurses := true, apart := false, narrowed := true }
def FeatureAnswersUptoSaid : Prop := featureAnswersUptoRow.holds Tryz.pinned (OpenSpec.upto featureAnswersSpec)

/-- 'landaidlaw20.GrasslandPloughed', WHERE WHAT IT READS IS OF BULK AT MOST 1048576: true; the input reads as it did. -/
def grasslandPloughedUptoRow : OpenClaim := { program := "ytdfbifjpedjljaagreat", sum := "6139e95c2c3abc24201e3df58ca0991145c7827bc6bd2f4b67153f53bca8f060", func := "landaid/landaidlaw20.GrasslandPloughed", spec := "grasslandPloughed", unfollowed := true, recurses := true, named := ["math/bits.divideError", "math/bits.overflowError"], apart := false, narrowed := true }
def GrasslandPloughedUptoSaid : Prop := grasslandPloughedUptoRow.holds Tryz.pinned (OpenSpec.upto grasslandPloughedSpec)

/-- 'landaidlaw20.GrasslandAnswers', WHERE WHAT IT READS IS OF BULK AT MOST 1048576: true; the input reads as it did. -/
def grasslandAnswersUptoRow : OpenClaim := { program := "ytdfbifjpedjljaagreat", sum := "6139e95c2c3abc24201e3df58ca0991145c7827bc6bd2f4b67153f53bca8f060", func := "landaid/landaidlaw20.GrasslandAnswers", spec := "grasslandAnswers", unfollowed := true, recurses := true, named := ["math/bits.divideError", "math/bits.overflowError"], apart := false, narrowed := true }
def GrasslandAnswersUptoSaid : Prop := grasslandAnswersUptoRow.holds Tryz.pinned (OpenSpec.upto grasslandAnswersSpec)

/-- 'landaidlaw19.RotationFamilies', WHERE WHAT IT READS IS OF BULK AT MOST 1048576: true; the input reads as it did. -/
def rotationFamiliesUptoRow : OpenClaim := { program := "ytdfbifjpedjljaagreat", sum := "6139e95c2c3abc24201e3df58ca0991145c7827bc6bd2f4b67153f53bca8f060", func := "landaid/landaidlaw19.RotationFamilies", spec := "rotationFamilies", inPlace := ["internal/reflectlite.ValueOf", "internal/reflectlite.Swapper", "(internal/reflectlite.Value).Len"], unfollowed := true, recurses := true, apart := false, narrowed := true }
def RotationFamiliesUptoSaid : Prop := rotationFamiliesUptoRow.holds Tryz.pinned (OpenSpec.upto rotationFamiliesSpec)

/-- 'landaidlaw19.RotationSmall', WHERE WHAT IT READS IS OF BULK AT MOST 1048576: true; the input reads as it did. -/
def rotationSmallUptoRow : OpenClaim := { program := "ytdfbifjpedjljaagreat", sum := "6139e95c2c3abc24201e3df58ca0991145c7827bc6bd2f4b67153f53bca8f060", func := "landaid/landaidlaw19.RotationSmall", spec := "rotationSmall", inPlace := ["internal/reflectlite.ValueOf", "internal/reflectlite.Swapper", "(internal/reflectlite.Value).Len"], unfollowed := true, recurses := true, apart := false, narrowed := true }
def RotationSmallUptoSaid : Prop := rotationSmallUptoRow.holds Tryz.pinned (OpenSpec.upto rotationSmallSpec)

/-- 'landaidlaw19.RotationRepeats', WHERE WHAT IT READS IS OF BULK AT MOST 1048576: true; the input reads as it did. -/
def rotationRepeatsUptoRow : OpenClaim := { program := "ytdfbifjpedjljaagreat", sum := "6139e95c2c3abc24201e3df58ca0991145c7827bc6bd2f4b67153f53bca8f060", func := "landaid/landaidlaw19.RotationRepeats", spec := "rotationRepeats", inPlace := ["internal/reflectlite.ValueOf", "internal/reflectlite.Swapper", "(internal/reflectlite.Value).Len"], unfollowed := true, recurses := true, apart := false, narrowed := true }
def RotationRepeatsUptoSaid : Prop := rotationRepeatsUptoRow.holds Tryz.pinned (OpenSpec.upto rotationRepeatsSpec)

/-- 'landaidlaw19.RotationAnswers', WHERE WHAT IT READS IS OF BULK AT MOST 1048576: true; the input reads as it did. -/
def rotationAnswersUptoRow : OpenClaim := { program := "ytdfbifjpedjljaagreat", sum := "6139e95c2c3abc24201e3df58ca0991145c7827bc6bd2f4b67153f53bca8f060", func := "landaid/landaidlaw19.RotationAnswers", spec := "rotationAnswers", inPlace := ["internal/reflectlite.ValueOf", "internal/reflectlite.Swapper", "(internal/reflectlite.Value).Len"], unfollowed := true, recurses := true, apart := false, narrowed := true }
def RotationAnswersUptoSaid : Prop := rotationAnswersUptoRow.holds Tryz.pinned (OpenSpec.upto rotationAnswersSpec)

/-- 'landaidlaw19.RotationShares', WHERE WHAT IT READS IS OF BULK AT MOST 1048576: true; the input reads as it did. -/
def rotationSharesUptoRow : OpenClaim := { program := "ytdfbifjpedjljaagreat", sum := "6139e95c2c3abc24201e3df58ca0991145c7827bc6bd2f4b67153f53bca8f060", func := "landaid/landaidlaw19.RotationShares", spec := "rotationShares", inPlace := ["internal/reflectlite.ValueOf", "internal/reflectlite.Swapper", "(internal/reflectlite.Value).Len"], unfollowed := true, recurses := true, apart := false, narrowed := true }
def RotationSharesUptoSaid : Prop := rotationSharesUptoRow.holds Tryz.pinned (OpenSpec.upto rotationSharesSpec)

end Rows
end Go.Proofs.YtdfbifjpedjljaaGreat
