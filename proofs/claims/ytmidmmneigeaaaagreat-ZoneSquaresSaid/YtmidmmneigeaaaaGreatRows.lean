/-
  No cell of these rows narrows 'for every input' (looked for: loops, veiled, ifaces, maps, wideKeys, modest, calm, conditions, laid).
  DERIVED. THE GIVEN ROWS OF THIS SEAT. 6 by the template 'for every input the law returns true; each argument reads behind the call as it read before'; 0 by the template 'total and deterministic' (their statements: YtmidmmneigeaaaaGreatTotals.lean).
  GIVEN WITH THE SEED: the statements are not yours to turn. If you find one false, say at which input.
  Laid BY PROGRAM, IN A SANDBOX (cutbox-rows.mjs): the forced cells as the released guide's own fill.sh prints them over the translation 0be4ae6597b6add2… (all of the seat's roots in one cut). By AI agents, Wed Nov 11 2026. No macro, syntax, notation, axiom, sorry.
-/
import Derived.Test.YtmidmmneigeaaaaGreatChecked
import GoSem.Claim
import GoSem.ClaimJoined
import GoSem.ClaimMapViews
import Derived.JoinedTies
import Derived.KernelRfl
namespace Go.Proofs.YtmidmmneigeaaaaGreat
/- THE CELL 'sum', in the pinned program and in every row, IS THE sha256 OF THE DUMP (.gsa) THAT YtmidmmneigeaaaaGreatProg.lean LOADS. Nothing in Lean hashes anything: it is a label: what it is worth is what the hold of that sum in a sandbox is worth. -/
noncomputable def Tryz.pinned : Pinned := { name := "ytmidmmneigeaaaagreat", sum := "0be4ae6597b6add260049465ed3a0560a26ebd90ee36af8b59273492b50065dd", checked := Tryz.checked }
namespace Rows
def none {H : Type} : Left H := { results := [], args := [] }

/-- 'landaidlaw11.ZoneEligible': WHATEVER THE INPUT: true; the input reads as it did. -/
def zoneEligibleSpec : ChangeSpec := { name := "zoneEligible", fn := fun _ => fun
  | [d1, d2, d3, d4] => { results := [.lit (.bool true)], args := [d1, d2, d3, d4] }
  | _ => none }
def zoneEligibleRow : OpenClaim := { program := "ytmidmmneigeaaaagreat", sum := "0be4ae6597b6add260049465ed3a0560a26ebd90ee36af8b59273492b50065dd", func := "landaid/landaidlaw11.ZoneEligible", spec := "zoneEligible", unfollowed := true, recurses := true, apart := false }
def ZoneEligibleSaid : Prop := zoneEligibleRow.holds Tryz.pinned (OpenSpec.ofChange zoneEligibleSpec)

/-- ITS FALSE NEIGHBOUR: 'it returns false'. Refute it at one input. -/
def zoneEligibleWrong : ChangeSpec := { name := "zoneEligible", fn := fun _ => fun
  | [d1, d2, d3, d4] => { results := [.lit (.bool false)], args := [d1, d2, d3, d4] }
  | _ => none }
def ZoneEligibleWrongFalsely : Prop := zoneEligibleRow.holds Tryz.pinned (OpenSpec.ofChange zoneEligibleWrong)

/-- 'landaidlaw11.ZoneSoft': WHATEVER THE INPUT: true; the input reads as it did. -/
def zoneSoftSpec : ChangeSpec := { name := "zoneSoft", fn := fun _ => fun
  | [d1, d2, d3] => { results := [.lit (.bool true)], args := [d1, d2, d3] }
  | _ => none }
def zoneSoftRow : OpenClaim := { program := "ytmidmmneigeaaaagreat", sum := "0be4ae6597b6add260049465ed3a0560a26ebd90ee36af8b59273492b50065dd", func := "landaid/landaidlaw11.ZoneSoft", spec := "zoneSoft", unfollowed := true, recurses := true, apart := false }
def ZoneSoftSaid : Prop := zoneSoftRow.holds Tryz.pinned (OpenSpec.ofChange zoneSoftSpec)

/-- ITS FALSE NEIGHBOUR: 'it returns false'. Refute it at one input. -/
def zoneSoftWrong : ChangeSpec := { name := "zoneSoft", fn := fun _ => fun
  | [d1, d2, d3] => { results := [.lit (.bool false)], args := [d1, d2, d3] }
  | _ => none }
def ZoneSoftWrongFalsely : Prop := zoneSoftRow.holds Tryz.pinned (OpenSpec.ofChange zoneSoftWrong)

/-- 'landaidlaw11.ZoneSquares': WHATEVER THE INPUT: true; the input reads as it did. -/
def zoneSquaresSpec : ChangeSpec := { name := "zoneSquares", fn := fun _ => fun
  | [d1, d2] => { results := [.lit (.bool true)], args := [d1, d2] }
  | _ => none }
def zoneSquaresRow : OpenClaim := { program := "ytmidmmneigeaaaagreat", sum := "0be4ae6597b6add260049465ed3a0560a26ebd90ee36af8b59273492b50065dd", func := "landaid/landaidlaw11.ZoneSquares", spec := "zoneSquares", unfollowed := true, recurses := true, apart := false }
def ZoneSquaresSaid : Prop := zoneSquaresRow.holds Tryz.pinned (OpenSpec.ofChange zoneSquaresSpec)

/-- ITS FALSE NEIGHBOUR: 'it returns false'. Refute it at one input. -/
def zoneSquaresWrong : ChangeSpec := { name := "zoneSquares", fn := fun _ => fun
  | [d1, d2] => { results := [.lit (.bool false)], args := [d1, d2] }
  | _ => none }
def ZoneSquaresWrongFalsely : Prop := zoneSquaresRow.holds Tryz.pinned (OpenSpec.ofChange zoneSquaresWrong)

/-- 'landaidlaw11.ZoneBuffers': WHATEVER THE INPUT: true; the input reads as it did. -/
def zoneBuffersSpec : ChangeSpec := { name := "zoneBuffers", fn := fun _ => fun
  | [d1, d2, d3, d4] => { results := [.lit (.bool true)], args := [d1, d2, d3, d4] }
  | _ => none }
def zoneBuffersRow : OpenClaim := { program := "ytmidmmneigeaaaagreat", sum := "0be4ae6597b6add260049465ed3a0560a26ebd90ee36af8b59273492b50065dd", func := "landaid/landaidlaw11.ZoneBuffers", spec := "zoneBuffers", unfollowed := true, recurses := true, apart := false }
def ZoneBuffersSaid : Prop := zoneBuffersRow.holds Tryz.pinned (OpenSpec.ofChange zoneBuffersSpec)

/-- ITS FALSE NEIGHBOUR: 'it returns false'. Refute it at one input. -/
def zoneBuffersWrong : ChangeSpec := { name := "zoneBuffers", fn := fun _ => fun
  | [d1, d2, d3, d4] => { results := [.lit (.bool false)], args := [d1, d2, d3, d4] }
  | _ => none }
def ZoneBuffersWrongFalsely : Prop := zoneBuffersRow.holds Tryz.pinned (OpenSpec.ofChange zoneBuffersWrong)

/-- 'landaidlaw11.ZoneAnswers': WHATEVER THE INPUT: true; the input reads as it did. -/
def zoneAnswersSpec : ChangeSpec := { name := "zoneAnswers", fn := fun _ => fun
  | [d1, d2, d3, d4, d5, d6, d7, d8] => { results := [.lit (.bool true)], args := [d1, d2, d3, d4, d5, d6, d7, d8] }
  | _ => none }
def zoneAnswersRow : OpenClaim := { program := "ytmidmmneigeaaaagreat", sum := "0be4ae6597b6add260049465ed3a0560a26ebd90ee36af8b59273492b50065dd", func := "landaid/landaidlaw11.ZoneAnswers", spec := "zoneAnswers", unfollowed := true, recurses := true, apart := false }
def ZoneAnswersSaid : Prop := zoneAnswersRow.holds Tryz.pinned (OpenSpec.ofChange zoneAnswersSpec)

/-- ITS FALSE NEIGHBOUR: 'it returns false'. Refute it at one input. -/
def zoneAnswersWrong : ChangeSpec := { name := "zoneAnswers", fn := fun _ => fun
  | [d1, d2, d3, d4, d5, d6, d7, d8] => { results := [.lit (.bool false)], args := [d1, d2, d3, d4, d5, d6, d7, d8] }
  | _ => none }
def ZoneAnswersWrongFalsely : Prop := zoneAnswersRow.holds Tryz.pinned (OpenSpec.ofChange zoneAnswersWrong)

/-- 'landaidlaw09.FeatureAnswers': WHATEVER THE INPUT: true; the input reads as it did. -/
def featureAnswersSpec : ChangeSpec := { name := "featureAnswers", fn := fun _ => fun
  | [d1, d2, d3, d4, d5] => { results := [.lit (.bool true)], args := [d1, d2, d3, d4, d5] }
  | _ => none }
def featureAnswersRow : OpenClaim := { program := "ytmidmmneigeaaaagreat", sum := "0be4ae6597b6add260049465ed3a0560a26ebd90ee36af8b59273492b50065dd", func := "landaid/landaidlaw09.FeatureAnswers", spec := "featureAnswers", inPlace := ["slices.overlaps[landaid/api.Feature]"], unfollowed := true, recurses := true, apart := false }
def FeatureAnswersSaid : Prop := featureAnswersRow.holds Tryz.pinned (OpenSpec.ofChange featureAnswersSpec)

/-- ITS FALSE NEIGHBOUR: 'it returns false'. Refute it at one input. -/
def featureAnswersWrong : ChangeSpec := { name := "featureAnswers", fn := fun _ => fun
  | [d1, d2, d3, d4, d5] => { results := [.lit (.bool false)], args := [d1, d2, d3, d4, d5] }
  | _ => none }
def FeatureAnswersWrongFalsely : Prop := featureAnswersRow.holds Tryz.pinned (OpenSpec.ofChange featureAnswersWrong)

/- THE SECOND FORM. 'bulk': how many values and letters a reading holds, each counted each time it is reached (what is shared counts as often as it is met; a slice's spare places count too). A statement '..UptoSaid' is the law's where the arguments, and the package variables that the reading takes, are together of bulk at most 1048576: NARROWER than '..Said'. Prove '..Said' where nothing that the law and all that it calls make is longer than what came in: it says more and counts as full. Else prove '..UptoSaid'. A law counts once. -/
mutual
def uptoBulk {H : Type} : DataW H → Nat
  | .lit (.string bytes) => bytes.length + 1
  | .lit _ => 1
  | .nil => 1
  | .ptr d => uptoBulk d + 1
  | .slice elems spare => uptoBulkAll elems + uptoBulkAll spare + 1
  | .agg parts => uptoBulkAll parts + 1
  | .iface _ d => uptoBulk d + 1
  | .map entries => uptoBulkEntries entries + 1
  | .held _ => 1
def uptoBulkAll {H : Type} : List (DataW H) → Nat
  | [] => 0
  | d :: r => uptoBulk d + uptoBulkAll r
def uptoBulkEntries {H : Type} : List (Lit × DataW H) → Nat
  | [] => 0
  | x :: r => uptoBulkEntry x + uptoBulkEntries r
def uptoBulkEntry {H : Type} : Lit × DataW H → Nat
  | (.string bytes, d) => bytes.length + uptoBulk d + 1
  | (_, d) => uptoBulk d + 1
 end
def uptoSmall : (H : Type) → List (DataW H) → Bool := fun _ ds => decide (uptoBulkAll ds ≤ 1048576)
def OpenSpec.upto (s : _root_.Go.ChangeSpec) : _root_.Go.OpenSpec := { _root_.Go.OpenSpec.ofChange s with cond := some uptoSmall }

/-- 'landaidlaw11.ZoneEligible', WHERE WHAT IT READS IS OF BULK AT MOST 1048576: true; the input reads as it did. -/
def zoneEligibleUptoRow : OpenClaim := { program := "ytmidmmneigeaaaagreat", sum := "0be4ae6597b6add260049465ed3a0560a26ebd90ee36af8b59273492b50065dd", func := "landaid/landaidlaw11.ZoneEligible", spec := "zoneEligible", unfollowed := true, recurses := true, apart := false, narrowed := true }
def ZoneEligibleUptoSaid : Prop := zoneEligibleUptoRow.holds Tryz.pinned (OpenSpec.upto zoneEligibleSpec)

/-- 'landaidlaw11.ZoneSoft', WHERE WHAT IT READS IS OF BULK AT MOST 1048576: true; the input reads as it did. -/
def zoneSoftUptoRow : OpenClaim := { program := "ytmidmmneigeaaaagreat", sum := "0be4ae6597b6add260049465ed3a0560a26ebd90ee36af8b59273492b50065dd", func := "landaid/landaidlaw11.ZoneSoft", spec := "zoneSoft", unfollowed := true, recurses := true, apart := false, narrowed := true }
def ZoneSoftUptoSaid : Prop := zoneSoftUptoRow.holds Tryz.pinned (OpenSpec.upto zoneSoftSpec)

/-- 'landaidlaw11.ZoneSquares', WHERE WHAT IT READS IS OF BULK AT MOST 1048576: true; the input reads as it did. -/
def zoneSquaresUptoRow : OpenClaim := { program := "ytmidmmneigeaaaagreat", sum := "0be4ae6597b6add260049465ed3a0560a26ebd90ee36af8b59273492b50065dd", func := "landaid/landaidlaw11.ZoneSquares", spec := "zoneSquares", unfollowed := true, recurses := true, apart := false, narrowed := true }
def ZoneSquaresUptoSaid : Prop := zoneSquaresUptoRow.holds Tryz.pinned (OpenSpec.upto zoneSquaresSpec)

/-- 'landaidlaw11.ZoneBuffers', WHERE WHAT IT READS IS OF BULK AT MOST 1048576: true; the input reads as it did. -/
def zoneBuffersUptoRow : OpenClaim := { program := "ytmidmmneigeaaaagreat", sum := "0be4ae6597b6add260049465ed3a0560a26ebd90ee36af8b59273492b50065dd", func := "landaid/landaidlaw11.ZoneBuffers", spec := "zoneBuffers", unfollowed := true, recurses := true, apart := false, narrowed := true }
def ZoneBuffersUptoSaid : Prop := zoneBuffersUptoRow.holds Tryz.pinned (OpenSpec.upto zoneBuffersSpec)

/-- 'landaidlaw11.ZoneAnswers', WHERE WHAT IT READS IS OF BULK AT MOST 1048576: true; the input reads as it did. -/
def zoneAnswersUptoRow : OpenClaim := { program := "ytmidmmneigeaaaagreat", sum := "0be4ae6597b6add260049465ed3a0560a26ebd90ee36af8b59273492b50065dd", func := "landaid/landaidlaw11.ZoneAnswers", spec := "zoneAnswers", unfollowed := true, recurses := true, apart := false, narrowed := true }
def ZoneAnswersUptoSaid : Prop := zoneAnswersUptoRow.holds Tryz.pinned (OpenSpec.upto zoneAnswersSpec)

/-- 'landaidlaw09.FeatureAnswers', WHERE WHAT IT READS IS OF BULK AT MOST 1048576: true; the input reads as it did. -/
def featureAnswersUptoRow : OpenClaim := { program := "ytmidmmneigeaaaagreat", sum := "0be4ae6597b6add260049465ed3a0560a26ebd90ee36af8b59273492b50065dd", func := "landaid/landaidlaw09.FeatureAnswers", spec := "featureAnswers", inPlace := ["slices.overlaps[landaid/api.Feature]"], unfollowed := true, recurses := true, apart := false, narrowed := true }
def FeatureAnswersUptoSaid : Prop := featureAnswersUptoRow.holds Tryz.pinned (OpenSpec.upto featureAnswersSpec)

end Rows
end Go.Proofs.YtmidmmneigeaaaaGreat
