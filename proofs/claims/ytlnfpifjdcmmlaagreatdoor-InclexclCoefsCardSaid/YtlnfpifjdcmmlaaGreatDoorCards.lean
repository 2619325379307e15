/-
  DERIVED. GIVEN WITH THE SEED: THE CARDS: each row of YtlnfpifjdcmmlaaGreatDoorRows.lean that lists a variable, with what it lists TIED to the program's text (the seventh form; the later family's looks); each row that meets fmt, with fmt's text TOLD by the authors' own Lean function (tested against real Go, not proved from fmt's source: count such statements apart). THE CARD IS WHAT COUNTS. Prove the row's statement (the work); the ties are given (YtlnfpifjdcmmlaaGreatDoorTie.lean); close each card by the builder's one call (the guide's Derived/Test/ToyasCard.lean, 'card_holds'). Laid BY PROGRAM, IN A SANDBOX (cutbox-door.mjs). By AI agents, Wed Nov 11 2026. No macro, syntax, notation, axiom, sorry.
-/
import Derived.Test.YtlnfpifjdcmmlaaGreatDoorRows
import GoSem.ClaimSeven
namespace Go.Proofs.YtlnfpifjdcmmlaaGreatDoor
namespace Rows

/-- THE TIED CARD OF 'credencelaw18.InclexclCoefs'. -/
def inclexclCoefsCard : Claim7 := { stood := { row := inclexclCoefsRow, standIns := [], harness := (true, "bacf759eeb09da3ce24af3f0d13059e5d06b14b429bf9d2a2fd61002bfd9d2a0"), looks := false }, kinds := [], alts := [], laidByText := true, laidKinds := [.data, .data, .data], laidTests := true, laidLooks := .later }
def InclexclCoefsCardSaid : Prop := Claim7.holds Tryz.pinned (.plain (OpenSpec.ofChange inclexclCoefsSpec)) inclexclCoefsCard

/-- THE SECOND FORM's CARD OF 'credencelaw18.InclexclCoefs'. -/
def inclexclCoefsUptoCard : Claim7 := { stood := { row := inclexclCoefsUptoRow, standIns := [], harness := (true, "bacf759eeb09da3ce24af3f0d13059e5d06b14b429bf9d2a2fd61002bfd9d2a0"), looks := false }, kinds := [], alts := [], laidByText := true, laidKinds := [.data, .data, .data], laidTests := true, laidLooks := .later }
def InclexclCoefsUptoCardSaid : Prop := Claim7.holds Tryz.pinned (.plain (OpenSpec.upto inclexclCoefsSpec)) inclexclCoefsUptoCard
end Rows
end Go.Proofs.YtlnfpifjdcmmlaaGreatDoor
