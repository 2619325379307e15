/-
  No cell of these rows narrows 'for every input' (looked for: loops, veiled, ifaces, maps, wideKeys, modest, calm, conditions, laid).
  DERIVED. THE GIVEN ROWS OF THIS SEAT. 3 by the template 'for every input the law returns true; each argument reads behind the call as it read before'; 0 by the template 'total and deterministic' (their statements: YtmnkdfjljkhneaaGreatTotals.lean).
  GIVEN WITH THE SEED: the statements are not yours to turn. If you find one false, say at which input.
  Laid BY PROGRAM, IN A SANDBOX (cutbox-rows.mjs): the forced cells as the released guide's own fill.sh prints them over the translation a0cd32599f5d21e8… (all of the seat's roots in one cut). By AI agents, Wed Nov 11 2026. No macro, syntax, notation, axiom, sorry.
-/
import Derived.Test.YtmnkdfjljkhneaaGreatChecked
import GoSem.Claim
import GoSem.ClaimJoined
import GoSem.ClaimMapViews
import Derived.JoinedTies
import Derived.KernelRfl
namespace Go.Proofs.YtmnkdfjljkhneaaGreat
/- THE CELL 'sum', in the pinned program and in every row, IS THE sha256 OF THE DUMP (.gsa) THAT YtmnkdfjljkhneaaGreatProg.lean LOADS. Nothing in Lean hashes anything: it is a label: what it is worth is what the hold of that sum in a sandbox is worth. -/
noncomputable def Tryz.pinned : Pinned := { name := "ytmnkdfjljkhneaagreat", sum := "a0cd32599f5d21e8d2a11962ee1267cdcf0b3e9117345e2f286ce301271748b1", checked := Tryz.checked }
namespace Rows
def none {H : Type} : Left H := { results := [], args := [] }

/-- 'credencelaw17.ShatterTells': WHATEVER THE INPUT: true; the input reads as it did. -/
def shatterTellsSpec : ChangeSpec := { name := "shatterTells", fn := fun _ => fun
  | [d1, d2, d3, d4] => { results := [.lit (.bool true)], args := [d1, d2, d3, d4] }
  | _ => none }
def shatterTellsRow : OpenClaim := { program := "ytmnkdfjljkhneaagreat", sum := "a0cd32599f5d21e8d2a11962ee1267cdcf0b3e9117345e2f286ce301271748b1", func := "credence/credencelaw17.ShatterTells", spec := "shatterTells", inPlace := ["internal/bytealg.abigen_runtime_cmpstring", "slices.overlaps[credence/api.CQ]"], unfollowed := true, recurses := true, apart := false }
def ShatterTellsSaid : Prop := shatterTellsRow.holds Tryz.pinned (OpenSpec.ofChange shatterTellsSpec)

/-- ITS FALSE NEIGHBOUR: 'it returns false'. Refute it at one input. -/
def shatterTellsWrong : ChangeSpec := { name := "shatterTells", fn := fun _ => fun
  | [d1, d2, d3, d4] => { results := [.lit (.bool false)], args := [d1, d2, d3, d4] }
  | _ => none }
def ShatterTellsWrongFalsely : Prop := shatterTellsRow.holds Tryz.pinned (OpenSpec.ofChange shatterTellsWrong)

/-- 'credencelaw17.ShatterSeparates': WHATEVER THE INPUT: true; the input reads as it did. -/
def shatterSeparatesSpec : ChangeSpec := { name := "shatterSeparates", fn := fun _ => fun
  | [d1, d2] => { results := [.lit (.bool true)], args := [d1, d2] }
  | _ => none }
def shatterSeparatesRow : OpenClaim := { program := "ytmnkdfjljkhneaagreat", sum := "a0cd32599f5d21e8d2a11962ee1267cdcf0b3e9117345e2f286ce301271748b1", func := "credence/credencelaw17.ShatterSeparates", spec := "shatterSeparates", inPlace := ["internal/bytealg.abigen_runtime_cmpstring", "slices.overlaps[credence/api.CQ]"], unfollowed := true, recurses := true, apart := false }
def ShatterSeparatesSaid : Prop := shatterSeparatesRow.holds Tryz.pinned (OpenSpec.ofChange shatterSeparatesSpec)

/-- ITS FALSE NEIGHBOUR: 'it returns false'. Refute it at one input. -/
def shatterSeparatesWrong : ChangeSpec := { name := "shatterSeparates", fn := fun _ => fun
  | [d1, d2] => { results := [.lit (.bool false)], args := [d1, d2] }
  | _ => none }
def ShatterSeparatesWrongFalsely : Prop := shatterSeparatesRow.holds Tryz.pinned (OpenSpec.ofChange shatterSeparatesWrong)

/-- 'credencelaw17.ShatterAgain': WHATEVER THE INPUT: true; the input reads as it did. -/
def shatterAgainSpec : ChangeSpec := { name := "shatterAgain", fn := fun _ => fun
  | [d1, d2] => { results := [.lit (.bool true)], args := [d1, d2] }
  | _ => none }
def shatterAgainRow : OpenClaim := { program := "ytmnkdfjljkhneaagreat", sum := "a0cd32599f5d21e8d2a11962ee1267cdcf0b3e9117345e2f286ce301271748b1", func := "credence/credencelaw17.ShatterAgain", spec := "shatterAgain", inPlace := ["internal/bytealg.abigen_runtime_cmpstring", "slices.overlaps[credence/api.CQ]"], unfollowed := true, recurses := true, apart := false }
def ShatterAgainSaid : Prop := shatterAgainRow.holds Tryz.pinned (OpenSpec.ofChange shatterAgainSpec)

/-- ITS FALSE NEIGHBOUR: 'it returns false'. Refute it at one input. -/
def shatterAgainWrong : ChangeSpec := { name := "shatterAgain", fn := fun _ => fun
  | [d1, d2] => { results := [.lit (.bool false)], args := [d1, d2] }
  | _ => none }
def ShatterAgainWrongFalsely : Prop := shatterAgainRow.holds Tryz.pinned (OpenSpec.ofChange shatterAgainWrong)

/- THE SECOND FORM. 'bulk': how many values and letters a reading holds, each counted each time it is reached (what is shared counts as often as it is met; a slice's spare places count too). A statement '..UptoSaid' is the law's where the arguments, and the package variables that the reading takes, are together of bulk at most 1048576: NARROWER than '..Said'. Prove '..Said' where nothing that the law and all that it calls make is longer than what came in: it says more and counts as full. Else prove '..UptoSaid'. A law counts once. -/
mutual
def uptoBulk {H : Type} : DataW H → Nat
  | .lit (.string bytes) => bytes.length + 1
  | .lit _ => 1
  | .nil => 1
  | .ptr d => uptoBulk d + 1
  | .slice elems spare => uptoBulkAll elems + uptoBulkAll spare + 1
  | .agg parts => uptoBulkAll parts + 1
  | .iface _ d => uptoBulk d + 1
  | .map entries => uptoBulkEntries entries + 1
  | .held _ => 1
def uptoBulkAll {H : Type} : List (DataW H) → Nat
  | [] => 0
  | d :: r => uptoBulk d + uptoBulkAll r
def uptoBulkEntries {H : Type} : List (Lit × DataW H) → Nat
  | [] => 0
  | x :: r => uptoBulkEntry x + uptoBulkEntries r
def uptoBulkEntry {H : Type} : Lit × DataW H → Nat
  | (.string bytes, d) => bytes.length + uptoBulk d + 1
  | (_, d) => uptoBulk d + 1
 end
def uptoSmall : (H : Type) → List (DataW H) → Bool := fun _ ds => decide (uptoBulkAll ds ≤ 1048576)
def OpenSpec.upto (s : _root_.Go.ChangeSpec) : _root_.Go.OpenSpec := { _root_.Go.OpenSpec.ofChange s with cond := some uptoSmall }

/-- 'credencelaw17.ShatterTells', WHERE WHAT IT READS IS OF BULK AT MOST 1048576: true; the input reads as it did. -/
def shatterTellsUptoRow : OpenClaim := { program := "ytmnkdfjljkhneaagreat", sum := "a0cd32599f5d21e8d2a11962ee1267cdcf0b3e9117345e2f286ce301271748b1", func := "credence/credencelaw17.ShatterTells", spec := "shatterTells", inPlace := ["internal/bytealg.abigen_runtime_cmpstring", "slices.overlaps[credence/api.CQ]"], unfollowed := true, recurses := true, apart := false, narrowed := true }
def ShatterTellsUptoSaid : Prop := shatterTellsUptoRow.holds Tryz.pinned (OpenSpec.upto shatterTellsSpec)

/-- 'credencelaw17.ShatterSeparates', WHERE WHAT IT READS IS OF BULK AT MOST 1048576: true; the input reads as it did. -/
def shatterSeparatesUptoRow : OpenClaim := { program := "ytmnkdfjljkhneaagreat", sum := "a0cd32599f5d21e8d2a11962ee1267cdcf0b3e9117345e2f286ce301271748b1", func := "credence/credencelaw17.ShatterSeparates", spec := "shatterSeparates", inPlace := ["internal/bytealg.abigen_runtime_cmpstring", "slices.overlaps[credence/api.CQ]"], unfollowed := true, recurses := true, apart := false, narrowed := true }
def ShatterSeparatesUptoSaid : Prop := shatterSeparatesUptoRow.holds Tryz.pinned (OpenSpec.upto shatterSeparatesSpec)

/-- 'credencelaw17.ShatterAgain', WHERE WHAT IT READS IS OF BULK AT MOST 1048576: true; the input reads as it did. -/
def shatterAgainUptoRow : OpenClaim := { program := "ytmnkdfjljkhneaagreat", sum := "a0cd32599f5d21e8d2a11962ee1267cdcf0b3e9117345e2f286ce301271748b1", func := "credence/credencelaw17.ShatterAgain", spec := "shatterAgain", inPlace := ["internal/bytealg.abigen_runtime_cmpstring", "slices.overlaps[credence/api.CQ]"], unfollowed := true, recurses := true, apart := false, narrowed := true }
def ShatterAgainUptoSaid : Prop := shatterAgainUptoRow.holds Tryz.pinned (OpenSpec.upto shatterAgainSpec)

end Rows
end Go.Proofs.YtmnkdfjljkhneaaGreat
