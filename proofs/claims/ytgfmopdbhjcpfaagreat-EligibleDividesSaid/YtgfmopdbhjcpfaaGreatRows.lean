/-
  NARROWER THAN 'FOR EVERY INPUT', by the rows' own cells (each row's printed sentence says how): ExclusionAnswers: loops.
  DERIVED. THE GIVEN ROWS OF THIS SEAT. 10 by the template 'for every input the law returns true; each argument reads behind the call as it read before'; 0 by the template 'total and deterministic' (their statements: YtgfmopdbhjcpfaaGreatTotals.lean).
  GIVEN WITH THE SEED: the statements are not yours to turn. If you find one false, say at which input.
  Laid BY PROGRAM, IN A SANDBOX (cutbox-rows.mjs): the forced cells as the released guide's own fill.sh prints them over the translation 8ed14db308bbe9ad… (all of the seat's roots in one cut). By AI agents, Wed Nov 11 2026. No macro, syntax, notation, axiom, sorry.
-/
import Derived.Test.YtgfmopdbhjcpfaaGreatChecked
import GoSem.Claim
import GoSem.ClaimJoined
import GoSem.ClaimMapViews
import Derived.JoinedTies
import Derived.KernelRfl
namespace Go.Proofs.YtgfmopdbhjcpfaaGreat
/- THE CELL 'sum', in the pinned program and in every row, IS THE sha256 OF THE DUMP (.gsa) THAT YtgfmopdbhjcpfaaGreatProg.lean LOADS. Nothing in Lean hashes anything: it is a label: what it is worth is what the hold of that sum in a sandbox is worth. -/
noncomputable def Tryz.pinned : Pinned := { name := "ytgfmopdbhjcpfaagreat", sum := "8ed14db308bbe9adaa1fddfa08f426e24c5a4d65a6d870f1549e6b56ac7ef982", checked := Tryz.checked }
namespace Rows
def none {H : Type} : Left H := { results := [], args := [] }

/-- 'landaidlaw31.ExclusionAnswers': WHATEVER THE INPUT: true; the input reads as it did. -/
def exclusionAnswersSpec : ChangeSpec := { name := "exclusionAnswers", fn := fun _ => fun
  | [d1, d2, d3] => { results := [.lit (.bool true)], args := [d1, d2, d3] }
  | _ => none }
def exclusionAnswersRow : OpenClaim := { program := "ytgfmopdbhjcpfaagreat", sum := "8ed14db308bbe9adaa1fddfa08f426e24c5a4d65a6d870f1549e6b56ac7ef982", func := "landaid/landaidlaw31.ExclusionAnswers", spec := "exclusionAnswers", unfollowed := true, recurses := true, loops := true, apart := false }
def ExclusionAnswersSaid : Prop := exclusionAnswersRow.holds Tryz.pinned (OpenSpec.ofChange exclusionAnswersSpec)

/-- ITS FALSE NEIGHBOUR: 'it returns false'. Refute it at one input. -/
def exclusionAnswersWrong : ChangeSpec := { name := "exclusionAnswers", fn := fun _ => fun
  | [d1, d2, d3] => { results := [.lit (.bool false)], args := [d1, d2, d3] }
  | _ => none }
def ExclusionAnswersWrongFalsely : Prop := exclusionAnswersRow.holds Tryz.pinned (OpenSpec.ofChange exclusionAnswersWrong)

/-- 'landaidlaw31.ExclusionAgain': WHATEVER THE INPUT: true; the input reads as it did. -/
def exclusionAgainSpec : ChangeSpec := { name := "exclusionAgain", fn := fun _ => fun
  | [d] => { results := [.lit (.bool true)], args := [d] }
  | _ => none }
def exclusionAgainRow : OpenClaim := { program := "ytgfmopdbhjcpfaagreat", sum := "8ed14db308bbe9adaa1fddfa08f426e24c5a4d65a6d870f1549e6b56ac7ef982", func := "landaid/landaidlaw31.ExclusionAgain", spec := "exclusionAgain", unfollowed := true, recurses := true, apart := false }
def ExclusionAgainSaid : Prop := exclusionAgainRow.holds Tryz.pinned (OpenSpec.ofChange exclusionAgainSpec)

/-- ITS FALSE NEIGHBOUR: 'it returns false'. Refute it at one input. -/
def exclusionAgainWrong : ChangeSpec := { name := "exclusionAgain", fn := fun _ => fun
  | [d] => { results := [.lit (.bool false)], args := [d] }
  | _ => none }
def ExclusionAgainWrongFalsely : Prop := exclusionAgainRow.holds Tryz.pinned (OpenSpec.ofChange exclusionAgainWrong)

/-- 'landaidlaw31.ExclusionAreas': WHATEVER THE INPUT: true; the input reads as it did. -/
def exclusionAreasSpec : ChangeSpec := { name := "exclusionAreas", fn := fun _ => fun
  | [d] => { results := [.lit (.bool true)], args := [d] }
  | _ => none }
def exclusionAreasRow : OpenClaim := { program := "ytgfmopdbhjcpfaagreat", sum := "8ed14db308bbe9adaa1fddfa08f426e24c5a4d65a6d870f1549e6b56ac7ef982", func := "landaid/landaidlaw31.ExclusionAreas", spec := "exclusionAreas", unfollowed := true, recurses := true, apart := false }
def ExclusionAreasSaid : Prop := exclusionAreasRow.holds Tryz.pinned (OpenSpec.ofChange exclusionAreasSpec)

/-- ITS FALSE NEIGHBOUR: 'it returns false'. Refute it at one input. -/
def exclusionAreasWrong : ChangeSpec := { name := "exclusionAreas", fn := fun _ => fun
  | [d] => { results := [.lit (.bool false)], args := [d] }
  | _ => none }
def ExclusionAreasWrongFalsely : Prop := exclusionAreasRow.holds Tryz.pinned (OpenSpec.ofChange exclusionAreasWrong)

/-- 'landaidlaw31.ExclusionOnce': WHATEVER THE INPUT: true; the input reads as it did. -/
def exclusionOnceSpec : ChangeSpec := { name := "exclusionOnce", fn := fun _ => fun
  | [d] => { results := [.lit (.bool true)], args := [d] }
  | _ => none }
def exclusionOnceRow : OpenClaim := { program := "ytgfmopdbhjcpfaagreat", sum := "8ed14db308bbe9adaa1fddfa08f426e24c5a4d65a6d870f1549e6b56ac7ef982", func := "landaid/landaidlaw31.ExclusionOnce", spec := "exclusionOnce", unfollowed := true, recurses := true, apart := false }
def ExclusionOnceSaid : Prop := exclusionOnceRow.holds Tryz.pinned (OpenSpec.ofChange exclusionOnceSpec)

/-- ITS FALSE NEIGHBOUR: 'it returns false'. Refute it at one input. -/
def exclusionOnceWrong : ChangeSpec := { name := "exclusionOnce", fn := fun _ => fun
  | [d] => { results := [.lit (.bool false)], args := [d] }
  | _ => none }
def ExclusionOnceWrongFalsely : Prop := exclusionOnceRow.holds Tryz.pinned (OpenSpec.ofChange exclusionOnceWrong)

/-- 'landaidlaw18.EligibleDivides': WHATEVER THE INPUT: true; the input reads as it did. -/
def eligibleDividesSpec : ChangeSpec := { name := "eligibleDivides", fn := fun _ => fun
  | [d] => { results := [.lit (.bool true)], args := [d] }
  | _ => none }
def eligibleDividesRow : OpenClaim := { program := "ytgfmopdbhjcpfaagreat", sum := "8ed14db308bbe9adaa1fddfa08f426e24c5a4d65a6d870f1549e6b56ac7ef982", func := "landaid/landaidlaw18.EligibleDivides", spec := "eligibleDivides", unfollowed := true, recurses := true, apart := false }
def EligibleDividesSaid : Prop := eligibleDividesRow.holds Tryz.pinned (OpenSpec.ofChange eligibleDividesSpec)

/-- ITS FALSE NEIGHBOUR: 'it returns false'. Refute it at one input. -/
def eligibleDividesWrong : ChangeSpec := { name := "eligibleDivides", fn := fun _ => fun
  | [d] => { results := [.lit (.bool false)], args := [d] }
  | _ => none }
def EligibleDividesWrongFalsely : Prop := eligibleDividesRow.holds Tryz.pinned (OpenSpec.ofChange eligibleDividesWrong)

/-- 'landaidlaw18.EligibleTerms': WHATEVER THE INPUT: true; the input reads as it did. -/
def eligibleTermsSpec : ChangeSpec := { name := "eligibleTerms", fn := fun _ => fun
  | [d] => { results := [.lit (.bool true)], args := [d] }
  | _ => none }
def eligibleTermsRow : OpenClaim := { program := "ytgfmopdbhjcpfaagreat", sum := "8ed14db308bbe9adaa1fddfa08f426e24c5a4d65a6d870f1549e6b56ac7ef982", func := "landaid/landaidlaw18.EligibleTerms", spec := "eligibleTerms", unfollowed := true, recurses := true, apart := false }
def EligibleTermsSaid : Prop := eligibleTermsRow.holds Tryz.pinned (OpenSpec.ofChange eligibleTermsSpec)

/-- ITS FALSE NEIGHBOUR: 'it returns false'. Refute it at one input. -/
def eligibleTermsWrong : ChangeSpec := { name := "eligibleTerms", fn := fun _ => fun
  | [d] => { results := [.lit (.bool false)], args := [d] }
  | _ => none }
def EligibleTermsWrongFalsely : Prop := eligibleTermsRow.holds Tryz.pinned (OpenSpec.ofChange eligibleTermsWrong)

/-- 'landaidlaw18.EligibleMore': WHATEVER THE INPUT: true; the input reads as it did. -/
def eligibleMoreSpec : ChangeSpec := { name := "eligibleMore", fn := fun _ => fun
  | [d1, d2] => { results := [.lit (.bool true)], args := [d1, d2] }
  | _ => none }
def eligibleMoreRow : OpenClaim := { program := "ytgfmopdbhjcpfaagreat", sum := "8ed14db308bbe9adaa1fddfa08f426e24c5a4d65a6d870f1549e6b56ac7ef982", func := "landaid/landaidlaw18.EligibleMore", spec := "eligibleMore", unfollowed := true, recurses := true, apart := false }
def EligibleMoreSaid : Prop := eligibleMoreRow.holds Tryz.pinned (OpenSpec.ofChange eligibleMoreSpec)

/-- ITS FALSE NEIGHBOUR: 'it returns false'. Refute it at one input. -/
def eligibleMoreWrong : ChangeSpec := { name := "eligibleMore", fn := fun _ => fun
  | [d1, d2] => { results := [.lit (.bool false)], args := [d1, d2] }
  | _ => none }
def EligibleMoreWrongFalsely : Prop := eligibleMoreRow.holds Tryz.pinned (OpenSpec.ofChange eligibleMoreWrong)

/-- 'landaidlaw18.EligibleParts': WHATEVER THE INPUT: true; the input reads as it did. -/
def eligiblePartsSpec : ChangeSpec := { name := "eligibleParts", fn := fun _ => fun
  | [d1, d2] => { results := [.lit (.bool true)], args := [d1, d2] }
  | _ => none }
def eligiblePartsRow : OpenClaim := { program := "ytgfmopdbhjcpfaagreat", sum := "8ed14db308bbe9adaa1fddfa08f426e24c5a4d65a6d870f1549e6b56ac7ef982", func := "landaid/landaidlaw18.EligibleParts", spec := "eligibleParts", unfollowed := true, recurses := true, apart := false }
def EligiblePartsSaid : Prop := eligiblePartsRow.holds Tryz.pinned (OpenSpec.ofChange eligiblePartsSpec)

/-- ITS FALSE NEIGHBOUR: 'it returns false'. Refute it at one input. -/
def eligiblePartsWrong : ChangeSpec := { name := "eligibleParts", fn := fun _ => fun
  | [d1, d2] => { results := [.lit (.bool false)], args := [d1, d2] }
  | _ => none }
def EligiblePartsWrongFalsely : Prop := eligiblePartsRow.holds Tryz.pinned (OpenSpec.ofChange eligiblePartsWrong)

/-- 'landaidlaw18.EligibleAnswers': WHATEVER THE INPUT: true; the input reads as it did. -/
def eligibleAnswersSpec : ChangeSpec := { name := "eligibleAnswers", fn := fun _ => fun
  | [d1, d2, d3] => { results := [.lit (.bool true)], args := [d1, d2, d3] }
  | _ => none }
def eligibleAnswersRow : OpenClaim := { program := "ytgfmopdbhjcpfaagreat", sum := "8ed14db308bbe9adaa1fddfa08f426e24c5a4d65a6d870f1549e6b56ac7ef982", func := "landaid/landaidlaw18.EligibleAnswers", spec := "eligibleAnswers", unfollowed := true, recurses := true, apart := false }
def EligibleAnswersSaid : Prop := eligibleAnswersRow.holds Tryz.pinned (OpenSpec.ofChange eligibleAnswersSpec)

/-- ITS FALSE NEIGHBOUR: 'it returns false'. Refute it at one input. -/
def eligibleAnswersWrong : ChangeSpec := { name := "eligibleAnswers", fn := fun _ => fun
  | [d1, d2, d3] => { results := [.lit (.bool false)], args := [d1, d2, d3] }
  | _ => none }
def EligibleAnswersWrongFalsely : Prop := eligibleAnswersRow.holds Tryz.pinned (OpenSpec.ofChange eligibleAnswersWrong)

/-- 'landaidlaw18.EligibleFarms': WHATEVER THE INPUT: true; the input reads as it did. -/
def eligibleFarmsSpec : ChangeSpec := { name := "eligibleFarms", fn := fun _ => fun
  | [d] => { results := [.lit (.bool true)], args := [d] }
  | _ => none }
def eligibleFarmsRow : OpenClaim := { program := "ytgfmopdbhjcpfaagreat", sum := "8ed14db308bbe9adaa1fddfa08f426e24c5a4d65a6d870f1549e6b56ac7ef982", func := "landaid/landaidlaw18.EligibleFarms", spec := "eligibleFarms", unfollowed := true, recurses := true, apart := false }
def EligibleFarmsSaid : Prop := eligibleFarmsRow.holds Tryz.pinned (OpenSpec.ofChange eligibleFarmsSpec)

/-- ITS FALSE NEIGHBOUR: 'it returns false'. Refute it at one input. -/
def eligibleFarmsWrong : ChangeSpec := { name := "eligibleFarms", fn := fun _ => fun
  | [d] => { results := [.lit (.bool false)], args := [d] }
  | _ => none }
def EligibleFarmsWrongFalsely : Prop := eligibleFarmsRow.holds Tryz.pinned (OpenSpec.ofChange eligibleFarmsWrong)

/- THE SECOND FORM. 'bulk': how many values and letters a reading holds, each counted each time it is reached (what is shared counts as often as it is met; a slice's spare places count too). A statement '..UptoSaid' is the law's where the arguments, and the package variables that the reading takes, are together of bulk at most 1048576: NARROWER than '..Said'. Prove '..Said' where nothing that the law and all that it calls make is longer than what came in: it says more and counts as full. Else prove '..UptoSaid'. A law counts once. -/
mutual
def uptoBulk {H : Type} : DataW H → Nat
  | .lit (.string bytes) => bytes.length + 1
  | .lit _ => 1
  | .nil => 1
  | .ptr d => uptoBulk d + 1
  | .slice elems spare => uptoBulkAll elems + uptoBulkAll spare + 1
  | .agg parts => uptoBulkAll parts + 1
  | .iface _ d => uptoBulk d + 1
  | .map entries => uptoBulkEntries entries + 1
  | .held _ => 1
def uptoBulkAll {H : Type} : List (DataW H) → Nat
  | [] => 0
  | d :: r => uptoBulk d + uptoBulkAll r
def uptoBulkEntries {H : Type} : List (Lit × DataW H) → Nat
  | [] => 0
  | x :: r => uptoBulkEntry x + uptoBulkEntries r
def uptoBulkEntry {H : Type} : Lit × DataW H → Nat
  | (.string bytes, d) => bytes.length + uptoBulk d + 1
  | (_, d) => uptoBulk d + 1
 end
def uptoSmall : (H : Type) → List (DataW H) → Bool := fun _ ds => decide (uptoBulkAll ds ≤ 1048576)
def OpenSpec.upto (s : _root_.Go.ChangeSpec) : _root_.Go.OpenSpec := { _root_.Go.OpenSpec.ofChange s with cond := some uptoSmall }

/-- 'landaidlaw31.ExclusionAnswers', WHERE WHAT IT READS IS OF BULK AT MOST 1048576: true; the input reads as it did. -/
def exclusionAnswersUptoRow : OpenClaim := { program := "ytgfmopdbhjcpfaagreat", sum := "8ed14db308bbe9adaa1fddfa08f426e24c5a4d65a6d870f1549e6b56ac7ef982", func := "landaid/landaidlaw31.ExclusionAnswers", spec := "exclusionAnswers", unfollowed := true, recurses := true, loops := true, apart := false, narrowed := true }
def ExclusionAnswersUptoSaid : Prop := exclusionAnswersUptoRow.holds Tryz.pinned (OpenSpec.upto exclusionAnswersSpec)

/-- 'landaidlaw31.ExclusionAgain', WHERE WHAT IT READS IS OF BULK AT MOST 1048576: true; the input reads as it did. -/
def exclusionAgainUptoRow : OpenClaim := { program := "ytgfmopdbhjcpfaagreat", sum := "8ed14db308bbe9adaa1fddfa08f426e24c5a4d65a6d870f1549e6b56ac7ef982", func := "landaid/landaidlaw31.ExclusionAgain", spec := "exclusionAgain", unfollowed := true, recurses := true, apart := false, narrowed := true }
def ExclusionAgainUptoSaid : Prop := exclusionAgainUptoRow.holds Tryz.pinned (OpenSpec.upto exclusionAgainSpec)

/-- 'landaidlaw31.ExclusionAreas', WHERE WHAT IT READS IS OF BULK AT MOST 1048576: true; the input reads as it did. -/
def exclusionAreasUptoRow : OpenClaim := { program := "ytgfmopdbhjcpfaagreat", sum := "8ed14db308bbe9adaa1fddfa08f426e24c5a4d65a6d870f1549e6b56ac7ef982", func := "landaid/landaidlaw31.ExclusionAreas", spec := "exclusionAreas", unfollowed := true, recurses := true, apart := false, narrowed := true }
def ExclusionAreasUptoSaid : Prop := exclusionAreasUptoRow.holds Tryz.pinned (OpenSpec.upto exclusionAreasSpec)

/-- 'landaidlaw31.ExclusionOnce', WHERE WHAT IT READS IS OF BULK AT MOST 1048576: true; the input reads as it did. -/
def exclusionOnceUptoRow : OpenClaim := { program := "ytgfmopdbhjcpfaagreat", sum := "8ed14db308bbe9adaa1fddfa08f426e24c5a4d65a6d870f1549e6b56ac7ef982", func := "landaid/landaidlaw31.ExclusionOnce", spec := "exclusionOnce", unfollowed := true, recurses := true, apart := false, narrowed := true }
def ExclusionOnceUptoSaid : Prop := exclusionOnceUptoRow.holds Tryz.pinned (OpenSpec.upto exclusionOnceSpec)

/-- 'landaidlaw18.EligibleDivides', WHERE WHAT IT READS IS OF BULK AT MOST 1048576: true; the input reads as it did. -/
def eligibleDividesUptoRow : OpenClaim := { program := "ytgfmopdbhjcpfaagreat", sum := "8ed14db308bbe9adaa1fddfa08f426e24c5a4d65a6d870f1549e6b56ac7ef982", func := "landaid/landaidlaw18.EligibleDivides", spec := "eligibleDivides", unfollowed := true, recurses := true, apart := false, narrowed := true }
def EligibleDividesUptoSaid : Prop := eligibleDividesUptoRow.holds Tryz.pinned (OpenSpec.upto eligibleDividesSpec)

/-- 'landaidlaw18.EligibleTerms', WHERE WHAT IT READS IS OF BULK AT MOST 1048576: true; the input reads as it did. -/
def eligibleTermsUptoRow : OpenClaim := { program := "ytgfmopdbhjcpfaagreat", sum := "8ed14db308bbe9adaa1fddfa08f426e24c5a4d65a6d870f1549e6b56ac7ef982", func := "landaid/landaidlaw18.EligibleTerms", spec := "eligibleTerms", unfollowed := true, recurses := true, apart := false, narrowed := true }
def EligibleTermsUptoSaid : Prop := eligibleTermsUptoRow.holds Tryz.pinned (OpenSpec.upto eligibleTermsSpec)

/-- 'landaidlaw18.EligibleMore', WHERE WHAT IT READS IS OF BULK AT MOST 1048576: true; the input reads as it did. -/
def eligibleMoreUptoRow : OpenClaim := { program := "ytgfmopdbhjcpfaagreat", sum := "8ed14db308bbe9adaa1fddfa08f426e24c5a4d65a6d870f1549e6b56ac7ef982", func := "landaid/landaidlaw18.EligibleMore", spec := "eligibleMore", unfollowed := true, recurses := true, apart := false, narrowed := true }
def EligibleMoreUptoSaid : Prop := eligibleMoreUptoRow.holds Tryz.pinned (OpenSpec.upto eligibleMoreSpec)

/-- 'landaidlaw18.EligibleParts', WHERE WHAT IT READS IS OF BULK AT MOST 1048576: true; the input reads as it did. -/
def eligiblePartsUptoRow : OpenClaim := { program := "ytgfmopdbhjcpfaagreat", sum := "8ed14db308bbe9adaa1fddfa08f426e24c5a4d65a6d870f1549e6b56ac7ef982", func := "landaid/landaidlaw18.EligibleParts", spec := "eligibleParts", unfollowed := true, recurses := true, apart := false, narrowed := true }
def EligiblePartsUptoSaid : Prop := eligiblePartsUptoRow.holds Tryz.pinned (OpenSpec.upto eligiblePartsSpec)

/-- 'landaidlaw18.EligibleAnswers', WHERE WHAT IT READS IS OF BULK AT MOST 1048576: true; the input reads as it did. -/
def eligibleAnswersUptoRow : OpenClaim := { program := "ytgfmopdbhjcpfaagreat", sum := "8ed14db308bbe9adaa1fddfa08f426e24c5a4d65a6d870f1549e6b56ac7ef982", func := "landaid/landaidlaw18.EligibleAnswers", spec := "eligibleAnswers", unfollowed := true, recurses := true, apart := false, narrowed := true }
def EligibleAnswersUptoSaid : Prop := eligibleAnswersUptoRow.holds Tryz.pinned (OpenSpec.upto eligibleAnswersSpec)

/-- 'landaidlaw18.EligibleFarms', WHERE WHAT IT READS IS OF BULK AT MOST 1048576: true; the input reads as it did. -/
def eligibleFarmsUptoRow : OpenClaim := { program := "ytgfmopdbhjcpfaagreat", sum := "8ed14db308bbe9adaa1fddfa08f426e24c5a4d65a6d870f1549e6b56ac7ef982", func := "landaid/landaidlaw18.EligibleFarms", spec := "eligibleFarms", unfollowed := true, recurses := true, apart := false, narrowed := true }
def EligibleFarmsUptoSaid : Prop := eligibleFarmsUptoRow.holds Tryz.pinned (OpenSpec.upto eligibleFarmsSpec)

end Rows
end Go.Proofs.YtgfmopdbhjcpfaaGreat
