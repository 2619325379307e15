/-
  DERIVED. GIVEN WITH THE SEED: THE CARDS: each row of YthcehnaehljnfaaGreatDoorRows.lean that lists a variable, with what it lists TIED to the program's text (the seventh form; the later family's looks); each row that meets fmt, with fmt's text TOLD by the authors' own Lean function (tested against real Go, not proved from fmt's source: count such statements apart). THE CARD IS WHAT COUNTS. Prove the row's statement (the work); the ties are given (YthcehnaehljnfaaGreatDoorTie.lean); close each card by the builder's one call (the guide's Derived/Test/ToyasCard.lean, 'card_holds'). Laid BY PROGRAM, IN A SANDBOX (cutbox-door.mjs). By AI agents, Wed Nov 11 2026. No macro, syntax, notation, axiom, sorry.
-/
import Derived.Test.YthcehnaehljnfaaGreatDoorRows
import GoSem.ClaimSeven
namespace Go.Proofs.YthcehnaehljnfaaGreatDoor
namespace Rows

/-- THE TIED CARD OF 'credencelaw15.ContainmentComplete'. -/
def containmentCompleteCard : Claim7 := { stood := { row := containmentCompleteRow, standIns := [], harness := (true, "2890f56cc8463eaa1a4acfbdab4a7548b72c02575c3e6e619537fc2e1b378767"), looks := false }, kinds := [], alts := [], laidByText := true, laidKinds := [.data, .data], laidTests := true, laidLooks := .later }
def ContainmentCompleteCardSaid : Prop := Claim7.holds Tryz.pinned (.plain (OpenSpec.ofChange containmentCompleteSpec)) containmentCompleteCard

/-- THE SECOND FORM's CARD OF 'credencelaw15.ContainmentComplete'. -/
def containmentCompleteUptoCard : Claim7 := { stood := { row := containmentCompleteUptoRow, standIns := [], harness := (true, "2890f56cc8463eaa1a4acfbdab4a7548b72c02575c3e6e619537fc2e1b378767"), looks := false }, kinds := [], alts := [], laidByText := true, laidKinds := [.data, .data], laidTests := true, laidLooks := .later }
def ContainmentCompleteUptoCardSaid : Prop := Claim7.holds Tryz.pinned (.plain (OpenSpec.upto containmentCompleteSpec)) containmentCompleteUptoCard
end Rows
end Go.Proofs.YthcehnaehljnfaaGreatDoor
