/-
  No cell of these rows narrows 'for every input' (looked for: loops, veiled, ifaces, maps, wideKeys, modest, calm, conditions, laid).
  DERIVED. THE GIVEN ROWS OF THIS SEAT. 3 by the template 'for every input the law returns true; each argument reads behind the call as it read before'; 0 by the template 'total and deterministic' (their statements: YtdghfppocejhjaaGreatTotals.lean).
  GIVEN WITH THE SEED: the statements are not yours to turn. If you find one false, say at which input.
  Laid BY PROGRAM, IN A SANDBOX (cutbox-rows.mjs): the forced cells as the released guide's own fill.sh prints them over the translation 1ec5a4a3376d0308… (all of the seat's roots in one cut). By AI agents, Wed Nov 11 2026. No macro, syntax, notation, axiom, sorry.
-/
import Derived.Test.YtdghfppocejhjaaGreatChecked
import GoSem.Claim
import GoSem.ClaimJoined
import GoSem.ClaimMapViews
import Derived.JoinedTies
import Derived.KernelRfl
namespace Go.Proofs.YtdghfppocejhjaaGreat
/- THE CELL 'sum', in the pinned program and in every row, IS THE sha256 OF THE DUMP (.gsa) THAT YtdghfppocejhjaaGreatProg.lean LOADS. Nothing in Lean hashes anything: it is a label: what it is worth is what the hold of that sum in a sandbox is worth. -/
noncomputable def Tryz.pinned : Pinned := { name := "ytdghfppocejhjaagreat", sum := "1ec5a4a3376d03087afceda7d47b8ed839726819e1f7732f394fe86432656653", checked := Tryz.checked }
namespace Rows
def none {H : Type} : Left H := { results := [], args := [] }

/-- 'landaidlaw09.FeatureAnswers': WHATEVER THE INPUT: true; the input reads as it did. -/
def featureAnswersSpec : ChangeSpec := { name := "featureAnswers", fn := fun _ => fun
  | [d1, d2, d3, d4, d5] => { results := [.lit (.bool true)], args := [d1, d2, d3, d4, d5] }
  | _ => none }
def featureAnswersRow : OpenClaim := { program := "ytdghfppocejhjaagreat", sum := "1ec5a4a3376d03087afceda7d47b8ed839726819e1f7732f394fe86432656653", func := "landaid/landaidlaw09.FeatureAnswers", spec := "featureAnswers", inPlace := ["slices.overlaps[landaid/api.Feature]"], unfollowed := true, recurses := true, apart := false }
def FeatureAnswersSaid : Prop := featureAnswersRow.holds Tryz.pinned (OpenSpec.ofChange featureAnswersSpec)

/-- ITS FALSE NEIGHBOUR: 'it returns false'. Refute it at one input. -/
def featureAnswersWrong : ChangeSpec := { name := "featureAnswers", fn := fun _ => fun
  | [d1, d2, d3, d4, d5] => { results := [.lit (.bool false)], args := [d1, d2, d3, d4, d5] }
  | _ => none }
def FeatureAnswersWrongFalsely : Prop := featureAnswersRow.holds Tryz.pinned (OpenSpec.ofChange featureAnswersWrong)

/-- 'landaidlaw20.GrasslandPloughed': WHATEVER THE INPUT: true; the input reads as it did. -/
def grasslandPloughedSpec : ChangeSpec := { name := "grasslandPloughed", fn := fun _ => fun
  | [d1, d2, d3] => { results := [.lit (.bool true)], args := [d1, d2, d3] }
  | _ => none }
def grasslandPloughedRow : OpenClaim := { program := "ytdghfppocejhjaagreat", sum := "1ec5a4a3376d03087afceda7d47b8ed839726819e1f7732f394fe86432656653", func := "landaid/landaidlaw20.GrasslandPloughed", spec := "grasslandPloughed", unfollowed := true, recurses := true, named := ["math/bits.divideError", "math/bits.overflowError"], apart := false }
def GrasslandPloughedSaid : Prop := grasslandPloughedRow.holds Tryz.pinned (OpenSpec.ofChange grasslandPloughedSpec)

/-- ITS FALSE NEIGHBOUR: 'it returns false'. Refute it at one input. -/
def grasslandPloughedWrong : ChangeSpec := { name := "grasslandPloughed", fn := fun _ => fun
  | [d1, d2, d3] => { results := [.lit (.bool false)], args := [d1, d2, d3] }
  | _ => none }
def GrasslandPloughedWrongFalsely : Prop := grasslandPloughedRow.holds Tryz.pinned (OpenSpec.ofChange grasslandPloughedWrong)

/-- 'landaidlaw20.GrasslandAnswers': WHATEVER THE INPUT: true; the input reads as it did. -/
def grasslandAnswersSpec : ChangeSpec := { name := "grasslandAnswers", fn := fun _ => fun
  | [d1, d2, d3, d4, d5, d6] => { results := [.lit (.bool true)], args := [d1, d2, d3, d4, d5, d6] }
  | _ => none }
def grasslandAnswersRow : OpenClaim := { program := "ytdghfppocejhjaagreat", sum := "1ec5a4a3376d03087afceda7d47b8ed839726819e1f7732f394fe86432656653", func := "landaid/landaidlaw20.GrasslandAnswers", spec := "grasslandAnswers", unfollowed := true, recurses := true, named := ["math/bits.divideError", "math/bits.overflowError"], apart := false }
def GrasslandAnswersSaid : Prop := grasslandAnswersRow.holds Tryz.pinned (OpenSpec.ofChange grasslandAnswersSpec)

/-- ITS FALSE NEIGHBOUR: 'it returns false'. Refute it at one input. -/
def grasslandAnswersWrong : ChangeSpec := { name := "grasslandAnswers", fn := fun _ => fun
  | [d1, d2, d3, d4, d5, d6] => { results := [.lit (.bool false)], args := [d1, d2, d3, d4, d5, d6] }
  | _ => none }
def GrasslandAnswersWrongFalsely : Prop := grasslandAnswersRow.holds Tryz.pinned (OpenSpec.ofChange grasslandAnswersWrong)

/- THE SECOND FORM. 'bulk': how many values and letters a reading holds, each counted each time it is reached (what is shared counts as often as it is met; a slice's spare places count too). A statement '..UptoSaid' is the law's where the arguments, and the package variables that the reading takes, are together of bulk at most 1048576: NARROWER than '..Said'. Prove '..Said' where nothing that the law and all that it calls make is longer than what came in: it says more and counts as full. Else prove '..UptoSaid'. A law counts once. -/
mutual
def uptoBulk {H : Type} : DataW H → Nat
  | .lit (.string bytes) => bytes.length + 1
  | .lit _ => 1
  | .nil => 1
  | .ptr d => uptoBulk d + 1
  | .slice elems spare => uptoBulkAll elems + uptoBulkAll spare + 1
  | .agg parts => uptoBulkAll parts + 1
  | .iface _ d => uptoBulk d + 1
  | .map entries => uptoBulkEntries entries + 1
  | .held _ => 1
def uptoBulkAll {H : Type} : List (DataW H) → Nat
  | [] => 0
  | d :: r => uptoBulk d + uptoBulkAll r
def uptoBulkEntries {H : Type} : List (Lit × DataW H) → Nat
  | [] => 0
  | x :: r => uptoBulkEntry x + uptoBulkEntries r
def uptoBulkEntry {H : Type} : Lit × DataW H → Nat
  | (.string bytes, d) => bytes.length + uptoBulk d + 1
  | (_, d) => uptoBulk d + 1
 end
def uptoSmall : (H : Type) → List (DataW H) → Bool := fun _ ds => decide (uptoBulkAll ds ≤ 1048576)
def OpenSpec.upto (s : _root_.Go.ChangeSpec) : _root_.Go.OpenSpec := { _root_.Go.OpenSpec.ofChange s with cond := some uptoSmall }

/-- 'landaidlaw09.FeatureAnswers', WHERE WHAT IT READS IS OF BULK AT MOST 1048576: true; the input reads as it did. -/
def featureAnswersUptoRow : OpenClaim := { program := "ytdghfppocejhjaagreat", sum := "1ec5a4a3376d03087afceda7d47b8ed839726819e1f7732f394fe86432656653", func := "landaid/landaidlaw09.FeatureAnswers", spec := "featureAnswers", inPlace := ["slices.overlaps[landaid/api.Feature]"], unfollowed := true, recurses := true, apart := false, narrowed := true }
def FeatureAnswersUptoSaid : Prop := featureAnswersUptoRow.holds Tryz.pinned (OpenSpec.upto featureAnswersSpec)

/-- 'landaidlaw20.GrasslandPloughed', WHERE WHAT IT READS IS OF BULK AT MOST 1048576: true; the input reads as it did. -/
def grasslandPloughedUptoRow : OpenClaim := { program := "ytdghfppocejhjaagreat", sum := "1ec5a4a3376d03087afceda7d47b8ed839726819e1f7732f394fe86432656653", func := "landaid/landaidlaw20.GrasslandPloughed", spec := "grasslandPloughed", unfollowed := true, recurses := true, named := ["math/bits.divideError", "math/bits.overflowError"], apart := false, narrowed := true }
def GrasslandPloughedUptoSaid : Prop := grasslandPloughedUptoRow.holds Tryz.pinned (OpenSpec.upto grasslandPloughedSpec)

/-- 'landaidlaw20.GrasslandAnswers', WHERE WHAT IT READS IS OF BULK AT MOST 1048576: true; the input reads as it did. -/
def grasslandAnswersUptoRow : OpenClaim := { program := "ytdghfppocejhjaagreat", sum := "1ec5a4a3376d03087afceda7d47b8ed839726819e1f7732f394fe86432656653", func := "landaid/landaidlaw20.GrasslandAnswers", spec := "grasslandAnswers", unfollowed := true, recurses := true, named := ["math/bits.divideError", "math/bits.overflowError"], apart := false, narrowed := true }
def GrasslandAnswersUptoSaid : Prop := grasslandAnswersUptoRow.holds Tryz.pinned (OpenSpec.upto grasslandAnswersSpec)

end Rows
end Go.Proofs.YtdghfppocejhjaaGreat
