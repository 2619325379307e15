/-
  DERIVED. GIVEN WITH THE SEED: THE CARDS: each row of YtpflgdmkpcpogaaGreatDoorRows.lean that lists a variable, with what it lists TIED to the program's text (the seventh form; the later family's looks); each row that meets fmt, with fmt's text TOLD by the authors' own Lean function (tested against real Go, not proved from fmt's source: count such statements apart). THE CARD IS WHAT COUNTS. Prove the row's statement (the work); the ties are given (YtpflgdmkpcpogaaGreatDoorTie.lean); close each card by the builder's one call (the guide's Derived/Test/ToyasCard.lean, 'card_holds'). Laid BY PROGRAM, IN A SANDBOX (cutbox-door.mjs). By AI agents, Wed Nov 11 2026. No macro, syntax, notation, axiom, sorry.
-/
import Derived.Test.YtpflgdmkpcpogaaGreatDoorRows
import GoSem.ClaimSeven
namespace Go.Proofs.YtpflgdmkpcpogaaGreatDoor
namespace Rows

/-- THE TIED CARD OF 'credencelaw19.PlanScales'. -/
def planScalesCard : Claim7 := { stood := { row := planScalesRow, standIns := [], harness := (true, "8210b126215c714f21a71da45dbe98341616086e9bde7a6fbb76118f85e5b384"), looks := false }, kinds := [], alts := [], laidByText := true, laidKinds := [.data, .data, .data], laidTests := true, laidLooks := .later }
def PlanScalesCardSaid : Prop := Claim7.holds Tryz.pinned (.plain (OpenSpec.ofChange planScalesSpec)) planScalesCard

/-- THE SECOND FORM's CARD OF 'credencelaw19.PlanScales'. -/
def planScalesUptoCard : Claim7 := { stood := { row := planScalesUptoRow, standIns := [], harness := (true, "8210b126215c714f21a71da45dbe98341616086e9bde7a6fbb76118f85e5b384"), looks := false }, kinds := [], alts := [], laidByText := true, laidKinds := [.data, .data, .data], laidTests := true, laidLooks := .later }
def PlanScalesUptoCardSaid : Prop := Claim7.holds Tryz.pinned (.plain (OpenSpec.upto planScalesSpec)) planScalesUptoCard
end Rows
end Go.Proofs.YtpflgdmkpcpogaaGreatDoor
