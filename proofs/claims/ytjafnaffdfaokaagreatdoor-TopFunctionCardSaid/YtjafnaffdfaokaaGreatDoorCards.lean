/-
  DERIVED. GIVEN WITH THE SEED: THE CARDS: each row of YtjafnaffdfaokaaGreatDoorRows.lean that lists a variable, with what it lists TIED to the program's text (the seventh form; the later family's looks); each row that meets fmt, with fmt's text TOLD by the authors' own Lean function (tested against real Go, not proved from fmt's source: count such statements apart). THE CARD IS WHAT COUNTS. Prove the row's statement (the work); the ties are given (YtjafnaffdfaokaaGreatDoorTie.lean); close each card by the builder's one call (the guide's Derived/Test/ToyasCard.lean, 'card_holds'). Laid BY PROGRAM, IN A SANDBOX (cutbox-door.mjs). By AI agents, Wed Nov 11 2026. No macro, syntax, notation, axiom, sorry.
-/
import Derived.Test.YtjafnaffdfaokaaGreatDoorRows
import GoSem.ClaimSeven
namespace Go.Proofs.YtjafnaffdfaokaaGreatDoor
namespace Rows

/-- THE TIED CARD OF 'landaidtop.TopFunction'. -/
def topFunctionCard : Claim7 := { stood := { row := topFunctionRow, standIns := [], harness := (true, "b1294a5a5576fbd22b3b02a1c37791e5a10798a2f52adadd0b2a9fa30429c29e"), looks := false }, kinds := [], alts := [], laidByText := true, laidKinds := [.data, .pinned], laidTests := true, laidLooks := .later }
def TopFunctionCardSaid : Prop := Claim7.holds Tryz.pinned (.plain (OpenSpec.ofChange topFunctionSpec)) topFunctionCard

/-- THE SECOND FORM's CARD OF 'landaidtop.TopFunction'. -/
def topFunctionUptoCard : Claim7 := { stood := { row := topFunctionUptoRow, standIns := [], harness := (true, "b1294a5a5576fbd22b3b02a1c37791e5a10798a2f52adadd0b2a9fa30429c29e"), looks := false }, kinds := [], alts := [], laidByText := true, laidKinds := [.data, .pinned], laidTests := true, laidLooks := .later }
def TopFunctionUptoCardSaid : Prop := Claim7.holds Tryz.pinned (.plain (OpenSpec.upto topFunctionSpec)) topFunctionUptoCard
end Rows
end Go.Proofs.YtjafnaffdfaokaaGreatDoor
