/-
  No cell of these rows narrows 'for every input' (looked for: loops, veiled, ifaces, maps, wideKeys, modest, calm, conditions, laid).
  DERIVED. THE GIVEN ROWS OF THIS SEAT. 11 by the template 'for every input the law returns true; each argument reads behind the call as it read before'; 0 by the template 'total and deterministic' (their statements: YtoeflmnpedachaaGreatTotals.lean).
  GIVEN WITH THE SEED: the statements are not yours to turn. If you find one false, say at which input.
  Laid BY PROGRAM, IN A SANDBOX (cutbox-rows.mjs): the forced cells as the released guide's own fill.sh prints them over the translation 4f7bb94d780d78a2… (all of the seat's roots in one cut). By AI agents, Wed Nov 11 2026. No macro, syntax, notation, axiom, sorry.
-/
import Derived.Test.YtoeflmnpedachaaGreatChecked
import GoSem.Claim
import GoSem.ClaimJoined
import GoSem.ClaimMapViews
import Derived.JoinedTies
import Derived.KernelRfl
namespace Go.Proofs.YtoeflmnpedachaaGreat
/- THE CELL 'sum', in the pinned program and in every row, IS THE sha256 OF THE DUMP (.gsa) THAT YtoeflmnpedachaaGreatProg.lean LOADS. Nothing in Lean hashes anything: it is a label: what it is worth is what the hold of that sum in a sandbox is worth. -/
noncomputable def Tryz.pinned : Pinned := { name := "ytoeflmnpedachaagreat", sum := "4f7bb94d780d78a20d8e01ef4ca5b43dd736445284921c5d3a29b122ad7ff0be", checked := Tryz.checked }
namespace Rows
def none {H : Type} : Left H := { results := [], args := [] }

/-- 'landaidlaw15.HistorySquares': WHATEVER THE INPUT: true; the input reads as it did. -/
def historySquaresSpec : ChangeSpec := { name := "historySquares", fn := fun _ => fun
  | [d] => { results := [.lit (.bool true)], args := [d] }
  | _ => none }
def historySquaresRow : OpenClaim := { program := "ytoeflmnpedachaagreat", sum := "4f7bb94d780d78a20d8e01ef4ca5b43dd736445284921c5d3a29b122ad7ff0be", func := "landaid/landaidlaw15.HistorySquares", spec := "historySquares", unfollowed := true, recurses := true, apart := false }
def HistorySquaresSaid : Prop := historySquaresRow.holds Tryz.pinned (OpenSpec.ofChange historySquaresSpec)

/-- ITS FALSE NEIGHBOUR: 'it returns false'. Refute it at one input. -/
def historySquaresWrong : ChangeSpec := { name := "historySquares", fn := fun _ => fun
  | [d] => { results := [.lit (.bool false)], args := [d] }
  | _ => none }
def HistorySquaresWrongFalsely : Prop := historySquaresRow.holds Tryz.pinned (OpenSpec.ofChange historySquaresWrong)

/-- 'landaidlaw20.GrasslandPermanent': WHATEVER THE INPUT: true; the input reads as it did. -/
def grasslandPermanentSpec : ChangeSpec := { name := "grasslandPermanent", fn := fun _ => fun
  | [d1, d2] => { results := [.lit (.bool true)], args := [d1, d2] }
  | _ => none }
def grasslandPermanentRow : OpenClaim := { program := "ytoeflmnpedachaagreat", sum := "4f7bb94d780d78a20d8e01ef4ca5b43dd736445284921c5d3a29b122ad7ff0be", func := "landaid/landaidlaw20.GrasslandPermanent", spec := "grasslandPermanent", unfollowed := true, recurses := true, apart := false }
def GrasslandPermanentSaid : Prop := grasslandPermanentRow.holds Tryz.pinned (OpenSpec.ofChange grasslandPermanentSpec)

/-- ITS FALSE NEIGHBOUR: 'it returns false'. Refute it at one input. -/
def grasslandPermanentWrong : ChangeSpec := { name := "grasslandPermanent", fn := fun _ => fun
  | [d1, d2] => { results := [.lit (.bool false)], args := [d1, d2] }
  | _ => none }
def GrasslandPermanentWrongFalsely : Prop := grasslandPermanentRow.holds Tryz.pinned (OpenSpec.ofChange grasslandPermanentWrong)

/-- 'landaidlaw20.GrasslandRatios': WHATEVER THE INPUT: true; the input reads as it did. -/
def grasslandRatiosSpec : ChangeSpec := { name := "grasslandRatios", fn := fun _ => fun
  | [d1, d2] => { results := [.lit (.bool true)], args := [d1, d2] }
  | _ => none }
def grasslandRatiosRow : OpenClaim := { program := "ytoeflmnpedachaagreat", sum := "4f7bb94d780d78a20d8e01ef4ca5b43dd736445284921c5d3a29b122ad7ff0be", func := "landaid/landaidlaw20.GrasslandRatios", spec := "grasslandRatios", unfollowed := true, recurses := true, apart := false }
def GrasslandRatiosSaid : Prop := grasslandRatiosRow.holds Tryz.pinned (OpenSpec.ofChange grasslandRatiosSpec)

/-- ITS FALSE NEIGHBOUR: 'it returns false'. Refute it at one input. -/
def grasslandRatiosWrong : ChangeSpec := { name := "grasslandRatios", fn := fun _ => fun
  | [d1, d2] => { results := [.lit (.bool false)], args := [d1, d2] }
  | _ => none }
def GrasslandRatiosWrongFalsely : Prop := grasslandRatiosRow.holds Tryz.pinned (OpenSpec.ofChange grasslandRatiosWrong)

/-- 'landaidlaw20.GrasslandFallen': WHATEVER THE INPUT: true; the input reads as it did. -/
def grasslandFallenSpec : ChangeSpec := { name := "grasslandFallen", fn := fun _ => fun
  | [d1, d2, d3, d4, d5] => { results := [.lit (.bool true)], args := [d1, d2, d3, d4, d5] }
  | _ => none }
def grasslandFallenRow : OpenClaim := { program := "ytoeflmnpedachaagreat", sum := "4f7bb94d780d78a20d8e01ef4ca5b43dd736445284921c5d3a29b122ad7ff0be", func := "landaid/landaidlaw20.GrasslandFallen", spec := "grasslandFallen", unfollowed := true, recurses := true, apart := false }
def GrasslandFallenSaid : Prop := grasslandFallenRow.holds Tryz.pinned (OpenSpec.ofChange grasslandFallenSpec)

/-- ITS FALSE NEIGHBOUR: 'it returns false'. Refute it at one input. -/
def grasslandFallenWrong : ChangeSpec := { name := "grasslandFallen", fn := fun _ => fun
  | [d1, d2, d3, d4, d5] => { results := [.lit (.bool false)], args := [d1, d2, d3, d4, d5] }
  | _ => none }
def GrasslandFallenWrongFalsely : Prop := grasslandFallenRow.holds Tryz.pinned (OpenSpec.ofChange grasslandFallenWrong)

/-- 'landaidlaw15.HistoryTwice': WHATEVER THE INPUT: true; the input reads as it did. -/
def historyTwiceSpec : ChangeSpec := { name := "historyTwice", fn := fun _ => fun
  | [d1, d2, d3] => { results := [.lit (.bool true)], args := [d1, d2, d3] }
  | _ => none }
def historyTwiceRow : OpenClaim := { program := "ytoeflmnpedachaagreat", sum := "4f7bb94d780d78a20d8e01ef4ca5b43dd736445284921c5d3a29b122ad7ff0be", func := "landaid/landaidlaw15.HistoryTwice", spec := "historyTwice", unfollowed := true, recurses := true, apart := false }
def HistoryTwiceSaid : Prop := historyTwiceRow.holds Tryz.pinned (OpenSpec.ofChange historyTwiceSpec)

/-- ITS FALSE NEIGHBOUR: 'it returns false'. Refute it at one input. -/
def historyTwiceWrong : ChangeSpec := { name := "historyTwice", fn := fun _ => fun
  | [d1, d2, d3] => { results := [.lit (.bool false)], args := [d1, d2, d3] }
  | _ => none }
def HistoryTwiceWrongFalsely : Prop := historyTwiceRow.holds Tryz.pinned (OpenSpec.ofChange historyTwiceWrong)

/-- 'landaidlaw15.HistoryFamilies': WHATEVER THE INPUT: true; the input reads as it did. -/
def historyFamiliesSpec : ChangeSpec := { name := "historyFamilies", fn := fun _ => fun
  | [d1, d2] => { results := [.lit (.bool true)], args := [d1, d2] }
  | _ => none }
def historyFamiliesRow : OpenClaim := { program := "ytoeflmnpedachaagreat", sum := "4f7bb94d780d78a20d8e01ef4ca5b43dd736445284921c5d3a29b122ad7ff0be", func := "landaid/landaidlaw15.HistoryFamilies", spec := "historyFamilies", unfollowed := true, recurses := true, apart := false }
def HistoryFamiliesSaid : Prop := historyFamiliesRow.holds Tryz.pinned (OpenSpec.ofChange historyFamiliesSpec)

/-- ITS FALSE NEIGHBOUR: 'it returns false'. Refute it at one input. -/
def historyFamiliesWrong : ChangeSpec := { name := "historyFamilies", fn := fun _ => fun
  | [d1, d2] => { results := [.lit (.bool false)], args := [d1, d2] }
  | _ => none }
def HistoryFamiliesWrongFalsely : Prop := historyFamiliesRow.holds Tryz.pinned (OpenSpec.ofChange historyFamiliesWrong)

/-- 'landaidlaw15.HistorySame': WHATEVER THE INPUT: true; the input reads as it did. -/
def historySameSpec : ChangeSpec := { name := "historySame", fn := fun _ => fun
  | [d1, d2, d3] => { results := [.lit (.bool true)], args := [d1, d2, d3] }
  | _ => none }
def historySameRow : OpenClaim := { program := "ytoeflmnpedachaagreat", sum := "4f7bb94d780d78a20d8e01ef4ca5b43dd736445284921c5d3a29b122ad7ff0be", func := "landaid/landaidlaw15.HistorySame", spec := "historySame", unfollowed := true, recurses := true, apart := false }
def HistorySameSaid : Prop := historySameRow.holds Tryz.pinned (OpenSpec.ofChange historySameSpec)

/-- ITS FALSE NEIGHBOUR: 'it returns false'. Refute it at one input. -/
def historySameWrong : ChangeSpec := { name := "historySame", fn := fun _ => fun
  | [d1, d2, d3] => { results := [.lit (.bool false)], args := [d1, d2, d3] }
  | _ => none }
def HistorySameWrongFalsely : Prop := historySameRow.holds Tryz.pinned (OpenSpec.ofChange historySameWrong)

/-- 'landaidlaw15.HistoryAnswers': WHATEVER THE INPUT: true; the input reads as it did. -/
def historyAnswersSpec : ChangeSpec := { name := "historyAnswers", fn := fun _ => fun
  | [d1, d2, d3, d4, d5, d6, d7] => { results := [.lit (.bool true)], args := [d1, d2, d3, d4, d5, d6, d7] }
  | _ => none }
def historyAnswersRow : OpenClaim := { program := "ytoeflmnpedachaagreat", sum := "4f7bb94d780d78a20d8e01ef4ca5b43dd736445284921c5d3a29b122ad7ff0be", func := "landaid/landaidlaw15.HistoryAnswers", spec := "historyAnswers", unfollowed := true, recurses := true, apart := false }
def HistoryAnswersSaid : Prop := historyAnswersRow.holds Tryz.pinned (OpenSpec.ofChange historyAnswersSpec)

/-- ITS FALSE NEIGHBOUR: 'it returns false'. Refute it at one input. -/
def historyAnswersWrong : ChangeSpec := { name := "historyAnswers", fn := fun _ => fun
  | [d1, d2, d3, d4, d5, d6, d7] => { results := [.lit (.bool false)], args := [d1, d2, d3, d4, d5, d6, d7] }
  | _ => none }
def HistoryAnswersWrongFalsely : Prop := historyAnswersRow.holds Tryz.pinned (OpenSpec.ofChange historyAnswersWrong)

/-- 'landaidlaw11.ZoneAnswers': WHATEVER THE INPUT: true; the input reads as it did. -/
def zoneAnswersSpec : ChangeSpec := { name := "zoneAnswers", fn := fun _ => fun
  | [d1, d2, d3, d4, d5, d6, d7, d8] => { results := [.lit (.bool true)], args := [d1, d2, d3, d4, d5, d6, d7, d8] }
  | _ => none }
def zoneAnswersRow : OpenClaim := { program := "ytoeflmnpedachaagreat", sum := "4f7bb94d780d78a20d8e01ef4ca5b43dd736445284921c5d3a29b122ad7ff0be", func := "landaid/landaidlaw11.ZoneAnswers", spec := "zoneAnswers", unfollowed := true, recurses := true, apart := false }
def ZoneAnswersSaid : Prop := zoneAnswersRow.holds Tryz.pinned (OpenSpec.ofChange zoneAnswersSpec)

/-- ITS FALSE NEIGHBOUR: 'it returns false'. Refute it at one input. -/
def zoneAnswersWrong : ChangeSpec := { name := "zoneAnswers", fn := fun _ => fun
  | [d1, d2, d3, d4, d5, d6, d7, d8] => { results := [.lit (.bool false)], args := [d1, d2, d3, d4, d5, d6, d7, d8] }
  | _ => none }
def ZoneAnswersWrongFalsely : Prop := zoneAnswersRow.holds Tryz.pinned (OpenSpec.ofChange zoneAnswersWrong)

/-- 'landaidlaw09.FeatureAnswers': WHATEVER THE INPUT: true; the input reads as it did. -/
def featureAnswersSpec : ChangeSpec := { name := "featureAnswers", fn := fun _ => fun
  | [d1, d2, d3, d4, d5] => { results := [.lit (.bool true)], args := [d1, d2, d3, d4, d5] }
  | _ => none }
def featureAnswersRow : OpenClaim := { program := "ytoeflmnpedachaagreat", sum := "4f7bb94d780d78a20d8e01ef4ca5b43dd736445284921c5d3a29b122ad7ff0be", func := "landaid/landaidlaw09.FeatureAnswers", spec := "featureAnswers", inPlace := ["slices.overlaps[landaid/api.Feature]"], unfollowed := true, recurses := true, apart := false }
def FeatureAnswersSaid : Prop := featureAnswersRow.holds Tryz.pinned (OpenSpec.ofChange featureAnswersSpec)

/-- ITS FALSE NEIGHBOUR: 'it returns false'. Refute it at one input. -/
def featureAnswersWrong : ChangeSpec := { name := "featureAnswers", fn := fun _ => fun
  | [d1, d2, d3, d4, d5] => { results := [.lit (.bool false)], args := [d1, d2, d3, d4, d5] }
  | _ => none }
def FeatureAnswersWrongFalsely : Prop := featureAnswersRow.holds Tryz.pinned (OpenSpec.ofChange featureAnswersWrong)

/-- 'landaidlaw20.GrasslandPloughed': WHATEVER THE INPUT: true; the input reads as it did. -/
def grasslandPloughedSpec : ChangeSpec := { name := "grasslandPloughed", fn := fun _ => fun
  | [d1, d2, d3] => { results := [.lit (.bool true)], args := [d1, d2, d3] }
  | _ => none }
def grasslandPloughedRow : OpenClaim := { program := "ytoeflmnpedachaagreat", sum := "4f7bb94d780d78a20d8e01ef4ca5b43dd736445284921c5d3a29b122ad7ff0be", func := "landaid/landaidlaw20.GrasslandPloughed", spec := "grasslandPloughed", unfollowed := true, recurses := true, named := ["math/bits.divideError", "math/bits.overflowError"], apart := false }
def GrasslandPloughedSaid : Prop := grasslandPloughedRow.holds Tryz.pinned (OpenSpec.ofChange grasslandPloughedSpec)

/-- ITS FALSE NEIGHBOUR: 'it returns false'. Refute it at one input. -/
def grasslandPloughedWrong : ChangeSpec := { name := "grasslandPloughed", fn := fun _ => fun
  | [d1, d2, d3] => { results := [.lit (.bool false)], args := [d1, d2, d3] }
  | _ => none }
def GrasslandPloughedWrongFalsely : Prop := grasslandPloughedRow.holds Tryz.pinned (OpenSpec.ofChange grasslandPloughedWrong)

/- THE SECOND FORM. 'bulk': how many values and letters a reading holds, each counted each time it is reached (what is shared counts as often as it is met; a slice's spare places count too). A statement '..UptoSaid' is the law's where the arguments, and the package variables that the reading takes, are together of bulk at most 1048576: NARROWER than '..Said'. Prove '..Said' where nothing that the law and all that it calls make is longer than what came in: it says more and counts as full. Else prove '..UptoSaid'. A law counts once. -/
mutual
def uptoBulk {H : Type} : DataW H → Nat
  | .lit (.string bytes) => bytes.length + 1
  | .lit _ => 1
  | .nil => 1
  | .ptr d => uptoBulk d + 1
  | .slice elems spare => uptoBulkAll elems + uptoBulkAll spare + 1
  | .agg parts => uptoBulkAll parts + 1
  | .iface _ d => uptoBulk d + 1
  | .map entries => uptoBulkEntries entries + 1
  | .held _ => 1
def uptoBulkAll {H : Type} : List (DataW H) → Nat
  | [] => 0
  | d :: r => uptoBulk d + uptoBulkAll r
def uptoBulkEntries {H : Type} : List (Lit × DataW H) → Nat
  | [] => 0
  | x :: r => uptoBulkEntry x + uptoBulkEntries r
def uptoBulkEntry {H : Type} : Lit × DataW H → Nat
  | (.string bytes, d) => bytes.length + uptoBulk d + 1
  | (_, d) => uptoBulk d + 1
 end
def uptoSmall : (H : Type) → List (DataW H) → Bool := fun _ ds => decide (uptoBulkAll ds ≤ 1048576)
def OpenSpec.upto (s : _root_.Go.ChangeSpec) : _root_.Go.OpenSpec := { _root_.Go.OpenSpec.ofChange s with cond := some uptoSmall }

/-- 'landaidlaw15.HistorySquares', WHERE WHAT IT READS IS OF BULK AT MOST 1048576: true; the input reads as it did. -/
def historySquaresUptoRow : OpenClaim := { program := "ytoeflmnpedachaagreat", sum := "4f7bb94d780d78a20d8e01ef4ca5b43dd736445284921c5d3a29b122ad7ff0be", func := "landaid/landaidlaw15.HistorySquares", spec := "historySquares", unfollowed := true, recurses := true, apart := false, narrowed := true }
def HistorySquaresUptoSaid : Prop := historySquaresUptoRow.holds Tryz.pinned (OpenSpec.upto historySquaresSpec)

/-- 'landaidlaw20.GrasslandPermanent', WHERE WHAT IT READS IS OF BULK AT MOST 1048576: true; the input reads as it did. -/
def grasslandPermanentUptoRow : OpenClaim := { program := "ytoeflmnpedachaagreat", sum := "4f7bb94d780d78a20d8e01ef4ca5b43dd736445284921c5d3a29b122ad7ff0be", func := "landaid/landaidlaw20.GrasslandPermanent", spec := "grasslandPermanent", unfollowed := true, recurses := true, apart := false, narrowed := true }
def GrasslandPermanentUptoSaid : Prop := grasslandPermanentUptoRow.holds Tryz.pinned (OpenSpec.upto grasslandPermanentSpec)

/-- 'landaidlaw20.GrasslandRatios', WHERE WHAT IT READS IS OF BULK AT MOST 1048576: true; the input reads as it did. -/
def grasslandRatiosUptoRow : OpenClaim := { program := "ytoeflmnpedachaagreat", sum := "4f7bb94d780d78a20d8e01ef4ca5b43dd736445284921c5d3a29b122ad7ff0be", func := "landaid/landaidlaw20.GrasslandRatios", spec := "grasslandRatios", unfollowed := true, recurses := true, apart := false, narrowed := true }
def GrasslandRatiosUptoSaid : Prop := grasslandRatiosUptoRow.holds Tryz.pinned (OpenSpec.upto grasslandRatiosSpec)

/-- 'landaidlaw20.GrasslandFallen', WHERE WHAT IT READS IS OF BULK AT MOST 1048576: true; the input reads as it did. -/
def grasslandFallenUptoRow : OpenClaim := { program := "ytoeflmnpedachaagreat", sum := "4f7bb94d780d78a20d8e01ef4ca5b43dd736445284921c5d3a29b122ad7ff0be", func := "landaid/landaidlaw20.GrasslandFallen", spec := "grasslandFallen", unfollowed := true, recurses := true, apart := false, narrowed := true }
def GrasslandFallenUptoSaid : Prop := grasslandFallenUptoRow.holds Tryz.pinned (OpenSpec.upto grasslandFallenSpec)

/-- 'landaidlaw15.HistoryTwice', WHERE WHAT IT READS IS OF BULK AT MOST 1048576: true; the input reads as it did. -/
def historyTwiceUptoRow : OpenClaim := { program := "ytoeflmnpedachaagreat", sum := "4f7bb94d780d78a20d8e01ef4ca5b43dd736445284921c5d3a29b122ad7ff0be", func := "landaid/landaidlaw15.HistoryTwice", spec := "historyTwice", unfollowed := true, recurses := true, apart := false, narrowed := true }
def HistoryTwiceUptoSaid : Prop := historyTwiceUptoRow.holds Tryz.pinned (OpenSpec.upto historyTwiceSpec)

/-- 'landaidlaw15.HistoryFamilies', WHERE WHAT IT READS IS OF BULK AT MOST 1048576: true; the input reads as it did. -/
def historyFamiliesUptoRow : OpenClaim := { program := "ytoeflmnpedachaagreat", sum := "4f7bb94d780d78a20d8e01ef4ca5b43dd736445284921c5d3a29b122ad7ff0be", func := "landaid/landaidlaw15.HistoryFamilies", spec := "historyFamilies", unfollowed := true, recurses := true, apart := false, narrowed := true }
def HistoryFamiliesUptoSaid : Prop := historyFamiliesUptoRow.holds Tryz.pinned (OpenSpec.upto historyFamiliesSpec)

/-- 'landaidlaw15.HistorySame', WHERE WHAT IT READS IS OF BULK AT MOST 1048576: true; the input reads as it did. -/
def historySameUptoRow : OpenClaim := { program := "ytoeflmnpedachaagreat", sum := "4f7bb94d780d78a20d8e01ef4ca5b43dd736445284921c5d3a29b122ad7ff0be", func := "landaid/landaidlaw15.HistorySame", spec := "historySame", unfollowed := true, recurses := true, apart := false, narrowed := true }
def HistorySameUptoSaid : Prop := historySameUptoRow.holds Tryz.pinned (OpenSpec.upto historySameSpec)

/-- 'landaidlaw15.HistoryAnswers', WHERE WHAT IT READS IS OF BULK AT MOST 1048576: true; the input reads as it did. -/
def historyAnswersUptoRow : OpenClaim := { program := "ytoeflmnpedachaagreat", sum := "4f7bb94d780d78a20d8e01ef4ca5b43dd736445284921c5d3a29b122ad7ff0be", func := "landaid/landaidlaw15.HistoryAnswers", spec := "historyAnswers", unfollowed := true, recurses := true, apart := false, narrowed := true }
def HistoryAnswersUptoSaid : Prop := historyAnswersUptoRow.holds Tryz.pinned (OpenSpec.upto historyAnswersSpec)

/-- 'landaidlaw11.ZoneAnswers', WHERE WHAT IT READS IS OF BULK AT MOST 1048576: true; the input reads as it did. -/
def zoneAnswersUptoRow : OpenClaim := { program := "ytoeflmnpedachaagreat", sum := "4f7bb94d780d78a20d8e01ef4ca5b43dd736445284921c5d3a29b122ad7ff0be", func := "landaid/landaidlaw11.ZoneAnswers", spec := "zoneAnswers", unfollowed := true, recurses := true, apart := false, narrowed := true }
def ZoneAnswersUptoSaid : Prop := zoneAnswersUptoRow.holds Tryz.pinned (OpenSpec.upto zoneAnswersSpec)

/-- 'landaidlaw09.FeatureAnswers', WHERE WHAT IT READS IS OF BULK AT MOST 1048576: true; the input reads as it did. -/
def featureAnswersUptoRow : OpenClaim := { program := "ytoeflmnpedachaagreat", sum := "4f7bb94d780d78a20d8e01ef4ca5b43dd736445284921c5d3a29b122ad7ff0be", func := "landaid/landaidlaw09.FeatureAnswers", spec := "featureAnswers", inPlace := ["slices.overlaps[landaid/api.Feature]"], unfollowed := true, recurses := true, apart := false, narrowed := true }
def FeatureAnswersUptoSaid : Prop := featureAnswersUptoRow.holds Tryz.pinned (OpenSpec.upto featureAnswersSpec)

/-- 'landaidlaw20.GrasslandPloughed', WHERE WHAT IT READS IS OF BULK AT MOST 1048576: true; the input reads as it did. -/
def grasslandPloughedUptoRow : OpenClaim := { program := "ytoeflmnpedachaagreat", sum := "4f7bb94d780d78a20d8e01ef4ca5b43dd736445284921c5d3a29b122ad7ff0be", func := "landaid/landaidlaw20.GrasslandPloughed", spec := "grasslandPloughed", unfollowed := true, recurses := true, named := ["math/bits.divideError", "math/bits.overflowError"], apart := false, narrowed := true }
def GrasslandPloughedUptoSaid : Prop := grasslandPloughedUptoRow.holds Tryz.pinned (OpenSpec.upto grasslandPloughedSpec)

end Rows
end Go.Proofs.YtoeflmnpedachaaGreat
