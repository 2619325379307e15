/-
  DERIVED. GIVEN WITH THE SEED: THE CARDS: each row of YtdlcolcidohbkaaGreatDoorRows.lean that lists a variable, with what it lists TIED to the program's text (the seventh form; the later family's looks); each row that meets fmt, with fmt's text TOLD by the authors' own Lean function (tested against real Go, not proved from fmt's source: count such statements apart). THE CARD IS WHAT COUNTS. Prove the row's statement (the work); the ties are given (YtdlcolcidohbkaaGreatDoorTie.lean); close each card by the builder's one call (the guide's Derived/Test/ToyasCard.lean, 'card_holds'). Laid BY PROGRAM, IN A SANDBOX (cutbox-door.mjs). By AI agents, Wed Nov 11 2026. No macro, syntax, notation, axiom, sorry.
-/
import Derived.Test.YtdlcolcidohbkaaGreatDoorRows
import GoSem.ClaimSeven
namespace Go.Proofs.YtdlcolcidohbkaaGreatDoor
namespace Rows

/-- THE TIED CARD OF 'credencelaw15.ContainmentSound'. -/
def containmentSoundCard : Claim7 := { stood := { row := containmentSoundRow, standIns := [], harness := (true, "79bfdb83d17a6447d8997f917449a41092b8e8ad14010659c8e6426f88ae117d"), looks := false }, kinds := [], alts := [], laidByText := true, laidKinds := [.data, .data], laidTests := true, laidLooks := .later }
def ContainmentSoundCardSaid : Prop := Claim7.holds Tryz.pinned (.plain (OpenSpec.ofChange containmentSoundSpec)) containmentSoundCard

/-- THE SECOND FORM's CARD OF 'credencelaw15.ContainmentSound'. -/
def containmentSoundUptoCard : Claim7 := { stood := { row := containmentSoundUptoRow, standIns := [], harness := (true, "79bfdb83d17a6447d8997f917449a41092b8e8ad14010659c8e6426f88ae117d"), looks := false }, kinds := [], alts := [], laidByText := true, laidKinds := [.data, .data], laidTests := true, laidLooks := .later }
def ContainmentSoundUptoCardSaid : Prop := Claim7.holds Tryz.pinned (.plain (OpenSpec.upto containmentSoundSpec)) containmentSoundUptoCard
end Rows
end Go.Proofs.YtdlcolcidohbkaaGreatDoor
