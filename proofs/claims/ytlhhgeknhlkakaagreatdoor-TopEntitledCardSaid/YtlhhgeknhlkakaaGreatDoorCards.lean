/-
  DERIVED. GIVEN WITH THE SEED: THE CARDS: each row of YtlhhgeknhlkakaaGreatDoorRows.lean that lists a variable, with what it lists TIED to the program's text (the seventh form; the later family's looks); each row that meets fmt, with fmt's text TOLD by the authors' own Lean function (tested against real Go, not proved from fmt's source: count such statements apart). THE CARD IS WHAT COUNTS. Prove the row's statement (the work); the ties are given (YtlhhgeknhlkakaaGreatDoorTie.lean); close each card by the builder's one call (the guide's Derived/Test/ToyasCard.lean, 'card_holds'). Laid BY PROGRAM, IN A SANDBOX (cutbox-door.mjs). By AI agents, Wed Nov 11 2026. No macro, syntax, notation, axiom, sorry.
-/
import Derived.Test.YtlhhgeknhlkakaaGreatDoorRows
import GoSem.ClaimSeven
namespace Go.Proofs.YtlhhgeknhlkakaaGreatDoor
namespace Rows

/-- THE TIED CARD OF 'landaidtop.TopEntitled'. -/
def topEntitledCard : Claim7 := { stood := { row := topEntitledRow, standIns := [], harness := (true, "84792133e53d9fdcfb89e23704bd5d759e8982e664f00ac775c6761347eccc65"), looks := false }, kinds := [], alts := [], laidByText := true, laidKinds := [.data, .pinned], laidTests := true, laidLooks := .later }
def TopEntitledCardSaid : Prop := Claim7.holds Tryz.pinned (.plain (OpenSpec.ofChange topEntitledSpec)) topEntitledCard

/-- THE SECOND FORM's CARD OF 'landaidtop.TopEntitled'. -/
def topEntitledUptoCard : Claim7 := { stood := { row := topEntitledUptoRow, standIns := [], harness := (true, "84792133e53d9fdcfb89e23704bd5d759e8982e664f00ac775c6761347eccc65"), looks := false }, kinds := [], alts := [], laidByText := true, laidKinds := [.data, .pinned], laidTests := true, laidLooks := .later }
def TopEntitledUptoCardSaid : Prop := Claim7.holds Tryz.pinned (.plain (OpenSpec.upto topEntitledSpec)) topEntitledUptoCard
end Rows
end Go.Proofs.YtlhhgeknhlkakaaGreatDoor
