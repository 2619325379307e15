/-
  DERIVED. GIVEN WITH THE SEED: THE CARDS: each row of YtjmjeeieakilfaaGreatDoorRows.lean that lists a variable, with what it lists TIED to the program's text (the seventh form; the later family's looks); each row that meets fmt, with fmt's text TOLD by the authors' own Lean function (tested against real Go, not proved from fmt's source: count such statements apart). THE CARD IS WHAT COUNTS. Prove the row's statement (the work); the ties are given (YtjmjeeieakilfaaGreatDoorTie.lean); close each card by the builder's one call (the guide's Derived/Test/ToyasCard.lean, 'card_holds'). Laid BY PROGRAM, IN A SANDBOX (cutbox-door.mjs). By AI agents, Wed Nov 11 2026. No macro, syntax, notation, axiom, sorry.
-/
import Derived.Test.YtjmjeeieakilfaaGreatDoorRows
import GoSem.ClaimSeven
namespace Go.Proofs.YtjmjeeieakilfaaGreatDoor
namespace Rows

/-- THE TIED CARD OF 'credencelaw14.SemanticsGroundings'. -/
def semanticsGroundingsCard : Claim7 := { stood := { row := semanticsGroundingsRow, standIns := [], harness := (true, "9e771a2d1f7156b70ffcdb99947b97af97ef3aa3db4cae777c440f724204eccd"), looks := false }, kinds := [], alts := [], laidByText := true, laidKinds := [.data, .data], laidTests := true, laidLooks := .later }
def SemanticsGroundingsCardSaid : Prop := Claim7.holds Tryz.pinned (.plain (OpenSpec.ofChange semanticsGroundingsSpec)) semanticsGroundingsCard

/-- THE SECOND FORM's CARD OF 'credencelaw14.SemanticsGroundings'. -/
def semanticsGroundingsUptoCard : Claim7 := { stood := { row := semanticsGroundingsUptoRow, standIns := [], harness := (true, "9e771a2d1f7156b70ffcdb99947b97af97ef3aa3db4cae777c440f724204eccd"), looks := false }, kinds := [], alts := [], laidByText := true, laidKinds := [.data, .data], laidTests := true, laidLooks := .later }
def SemanticsGroundingsUptoCardSaid : Prop := Claim7.holds Tryz.pinned (.plain (OpenSpec.upto semanticsGroundingsSpec)) semanticsGroundingsUptoCard
end Rows
end Go.Proofs.YtjmjeeieakilfaaGreatDoor
