/-
  DERIVED. GIVEN WITH THE SEED: THE CARDS: each row of YtbhholaillniiaaGreatDoorRows.lean that lists a variable, with what it lists TIED to the program's text (the seventh form; the later family's looks); each row that meets fmt, with fmt's text TOLD by the authors' own Lean function (tested against real Go, not proved from fmt's source: count such statements apart). THE CARD IS WHAT COUNTS. Prove the row's statement (the work); the ties are given (YtbhholaillniiaaGreatDoorTie.lean); close each card by the builder's one call (the guide's Derived/Test/ToyasCard.lean, 'card_holds'). Laid BY PROGRAM, IN A SANDBOX (cutbox-door.mjs). By AI agents, Wed Nov 11 2026. No macro, syntax, notation, axiom, sorry.
-/
import Derived.Test.YtbhholaillniiaaGreatDoorRows
import GoSem.ClaimSeven
namespace Go.Proofs.YtbhholaillniiaaGreatDoor
namespace Rows

/-- THE TIED CARD OF 'credencelaw15.ContainmentMinimal'. -/
def containmentMinimalCard : Claim7 := { stood := { row := containmentMinimalRow, standIns := [], harness := (true, "694f90a9412d92473e1802fa8c14519ddcd872dc13b41f2b6cc93e3fad19fc63"), looks := false }, kinds := [], alts := [], laidByText := true, laidKinds := [.data, .data], laidTests := true, laidLooks := .later }
def ContainmentMinimalCardSaid : Prop := Claim7.holds Tryz.pinned (.plain (OpenSpec.ofChange containmentMinimalSpec)) containmentMinimalCard

/-- THE SECOND FORM's CARD OF 'credencelaw15.ContainmentMinimal'. -/
def containmentMinimalUptoCard : Claim7 := { stood := { row := containmentMinimalUptoRow, standIns := [], harness := (true, "694f90a9412d92473e1802fa8c14519ddcd872dc13b41f2b6cc93e3fad19fc63"), looks := false }, kinds := [], alts := [], laidByText := true, laidKinds := [.data, .data], laidTests := true, laidLooks := .later }
def ContainmentMinimalUptoCardSaid : Prop := Claim7.holds Tryz.pinned (.plain (OpenSpec.upto containmentMinimalSpec)) containmentMinimalUptoCard
end Rows
end Go.Proofs.YtbhholaillniiaaGreatDoor
