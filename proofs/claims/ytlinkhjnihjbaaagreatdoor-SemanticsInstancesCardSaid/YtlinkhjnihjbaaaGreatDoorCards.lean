/-
  DERIVED. GIVEN WITH THE SEED: THE CARDS: each row of YtlinkhjnihjbaaaGreatDoorRows.lean that lists a variable, with what it lists TIED to the program's text (the seventh form; the later family's looks); each row that meets fmt, with fmt's text TOLD by the authors' own Lean function (tested against real Go, not proved from fmt's source: count such statements apart). THE CARD IS WHAT COUNTS. Prove the row's statement (the work); the ties are given (YtlinkhjnihjbaaaGreatDoorTie.lean); close each card by the builder's one call (the guide's Derived/Test/ToyasCard.lean, 'card_holds'). Laid BY PROGRAM, IN A SANDBOX (cutbox-door.mjs). By AI agents, Wed Nov 11 2026. No macro, syntax, notation, axiom, sorry.
-/
import Derived.Test.YtlinkhjnihjbaaaGreatDoorRows
import GoSem.ClaimSeven
namespace Go.Proofs.YtlinkhjnihjbaaaGreatDoor
namespace Rows

/-- THE TIED CARD OF 'credencelaw14.SemanticsInstances'. -/
def semanticsInstancesCard : Claim7 := { stood := { row := semanticsInstancesRow, standIns := [], harness := (true, "fbbd46cf839fda25ca9fa70cbcb736296934655f297e3e1aa743deddabf5265d"), looks := false }, kinds := [], alts := [], laidByText := true, laidKinds := [.data, .data], laidTests := true, laidLooks := .later }
def SemanticsInstancesCardSaid : Prop := Claim7.holds Tryz.pinned (.plain (OpenSpec.ofChange semanticsInstancesSpec)) semanticsInstancesCard

/-- THE SECOND FORM's CARD OF 'credencelaw14.SemanticsInstances'. -/
def semanticsInstancesUptoCard : Claim7 := { stood := { row := semanticsInstancesUptoRow, standIns := [], harness := (true, "fbbd46cf839fda25ca9fa70cbcb736296934655f297e3e1aa743deddabf5265d"), looks := false }, kinds := [], alts := [], laidByText := true, laidKinds := [.data, .data], laidTests := true, laidLooks := .later }
def SemanticsInstancesUptoCardSaid : Prop := Claim7.holds Tryz.pinned (.plain (OpenSpec.upto semanticsInstancesSpec)) semanticsInstancesUptoCard
end Rows
end Go.Proofs.YtlinkhjnihjbaaaGreatDoor
