/-
  DERIVED. GIVEN WITH THE SEED: THE CARDS: each row of YtlmnmaginhebdaaGreatDoorRows.lean that lists a variable, with what it lists TIED to the program's text (the seventh form; the later family's looks); each row that meets fmt, with fmt's text TOLD by the authors' own Lean function (tested against real Go, not proved from fmt's source: count such statements apart). THE CARD IS WHAT COUNTS. Prove the row's statement (the work); the ties are given (YtlmnmaginhebdaaGreatDoorTie.lean); close each card by the builder's one call (the guide's Derived/Test/ToyasCard.lean, 'card_holds'). Laid BY PROGRAM, IN A SANDBOX (cutbox-door.mjs). By AI agents, Wed Nov 11 2026. No macro, syntax, notation, axiom, sorry.
-/
import Derived.Test.YtlmnmaginhebdaaGreatDoorRows
import GoSem.ClaimSeven
namespace Go.Proofs.YtlmnmaginhebdaaGreatDoor
namespace Rows

/-- THE TIED CARD OF 'credencelaw19.PlanIndependent'. -/
def planIndependentCard : Claim7 := { stood := { row := planIndependentRow, standIns := [], harness := (true, "d50f017ad4f58e9991fba0cd0bcffcad1033fb3732ad21fb4067b5ae4428632f"), looks := false }, kinds := [], alts := [], laidByText := true, laidKinds := [.data, .data, .data], laidTests := true, laidLooks := .later }
def PlanIndependentCardSaid : Prop := Claim7.holds Tryz.pinned (.plain (OpenSpec.ofChange planIndependentSpec)) planIndependentCard

/-- THE SECOND FORM's CARD OF 'credencelaw19.PlanIndependent'. -/
def planIndependentUptoCard : Claim7 := { stood := { row := planIndependentUptoRow, standIns := [], harness := (true, "d50f017ad4f58e9991fba0cd0bcffcad1033fb3732ad21fb4067b5ae4428632f"), looks := false }, kinds := [], alts := [], laidByText := true, laidKinds := [.data, .data, .data], laidTests := true, laidLooks := .later }
def PlanIndependentUptoCardSaid : Prop := Claim7.holds Tryz.pinned (.plain (OpenSpec.upto planIndependentSpec)) planIndependentUptoCard
end Rows
end Go.Proofs.YtlmnmaginhebdaaGreatDoor
