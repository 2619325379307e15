/-
  DERIVED. GIVEN WITH THE SEED: THE CARDS: each row of YtflgmemhalhdbaaGreatDoorRows.lean that lists a variable, with what it lists TIED to the program's text (the seventh form; the later family's looks); each row that meets fmt, with fmt's text TOLD by the authors' own Lean function (tested against real Go, not proved from fmt's source: count such statements apart). THE CARD IS WHAT COUNTS. Prove the row's statement (the work); the ties are given (YtflgmemhalhdbaaGreatDoorTie.lean); close each card by the builder's one call (the guide's Derived/Test/ToyasCard.lean, 'card_holds'). Laid BY PROGRAM, IN A SANDBOX (cutbox-door.mjs). By AI agents, Wed Nov 11 2026. No macro, syntax, notation, axiom, sorry.
-/
import Derived.Test.YtflgmemhalhdbaaGreatDoorRows
import GoSem.ClaimSeven
namespace Go.Proofs.YtflgmemhalhdbaaGreatDoor
namespace Rows

/-- THE TIED CARD OF 'credencelaw18.InclexclRedundant'. -/
def inclexclRedundantCard : Claim7 := { stood := { row := inclexclRedundantRow, standIns := [], harness := (true, "a45b593f9cf95a0c4e40ea335be60f8ab51223f57cdcbd247e4ed55e8fe6bb25"), looks := false }, kinds := [], alts := [], laidByText := true, laidKinds := [.data, .data, .data], laidTests := true, laidLooks := .later }
def InclexclRedundantCardSaid : Prop := Claim7.holds Tryz.pinned (.plain (OpenSpec.ofChange inclexclRedundantSpec)) inclexclRedundantCard

/-- THE SECOND FORM's CARD OF 'credencelaw18.InclexclRedundant'. -/
def inclexclRedundantUptoCard : Claim7 := { stood := { row := inclexclRedundantUptoRow, standIns := [], harness := (true, "a45b593f9cf95a0c4e40ea335be60f8ab51223f57cdcbd247e4ed55e8fe6bb25"), looks := false }, kinds := [], alts := [], laidByText := true, laidKinds := [.data, .data, .data], laidTests := true, laidLooks := .later }
def InclexclRedundantUptoCardSaid : Prop := Claim7.holds Tryz.pinned (.plain (OpenSpec.upto inclexclRedundantSpec)) inclexclRedundantUptoCard
end Rows
end Go.Proofs.YtflgmemhalhdbaaGreatDoor
