/-
  DERIVED. GIVEN WITH THE SEED: THE CARDS: each row of YtkcnnkncapiohaaGreatDoorRows.lean that lists a variable, with what it lists TIED to the program's text (the seventh form; the later family's looks); each row that meets fmt, with fmt's text TOLD by the authors' own Lean function (tested against real Go, not proved from fmt's source: count such statements apart). THE CARD IS WHAT COUNTS. Prove the row's statement (the work); the ties are given (YtkcnnkncapiohaaGreatDoorTie.lean); close each card by the builder's one call (the guide's Derived/Test/ToyasCard.lean, 'card_holds'). Laid BY PROGRAM, IN A SANDBOX (cutbox-door.mjs). By AI agents, Wed Nov 11 2026. No macro, syntax, notation, axiom, sorry.
-/
import Derived.Test.YtkcnnkncapiohaaGreatDoorRows
import GoSem.ClaimSeven
namespace Go.Proofs.YtkcnnkncapiohaaGreatDoor
namespace Rows

/-- THE TIED CARD OF 'credencelaw18.InclexclConjoins'. -/
def inclexclConjoinsCard : Claim7 := { stood := { row := inclexclConjoinsRow, standIns := [], harness := (true, "90be102de569ea872dc312854ac83a0da2843f497d7139c695dde2de868a3e00"), looks := false }, kinds := [], alts := [], laidByText := true, laidKinds := [.data, .data, .data], laidTests := true, laidLooks := .later }
def InclexclConjoinsCardSaid : Prop := Claim7.holds Tryz.pinned (.plain (OpenSpec.ofChange inclexclConjoinsSpec)) inclexclConjoinsCard

/-- THE SECOND FORM's CARD OF 'credencelaw18.InclexclConjoins'. -/
def inclexclConjoinsUptoCard : Claim7 := { stood := { row := inclexclConjoinsUptoRow, standIns := [], harness := (true, "90be102de569ea872dc312854ac83a0da2843f497d7139c695dde2de868a3e00"), looks := false }, kinds := [], alts := [], laidByText := true, laidKinds := [.data, .data, .data], laidTests := true, laidLooks := .later }
def InclexclConjoinsUptoCardSaid : Prop := Claim7.holds Tryz.pinned (.plain (OpenSpec.upto inclexclConjoinsSpec)) inclexclConjoinsUptoCard
end Rows
end Go.Proofs.YtkcnnkncapiohaaGreatDoor
