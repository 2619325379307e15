/- A closed fact of the row: 'recurses' is what the program gives. Conditions: none. -/
import Derived.Test.YtdlcolcidohbkaaGreatDoorRows
import Derived.KernelRfl
set_option linter.all false
section
namespace Go.Proofs.YtdlcolcidohbkaaGreatDoor.containmentSound
set_option maxRecDepth 100000
theorem fRe:(Rows.containmentSoundRow.recurses==Tryz.prog.recurses 3)=true:=by kernel_rfl
end Go.Proofs.YtdlcolcidohbkaaGreatDoor.containmentSound
end
section
namespace Go.Proofs.YtdlcolcidohbkaaGreatDoor.containmentSound
set_option maxRecDepth 100000
theorem fNa:(Rows.containmentSoundRow.named==Tryz.prog.varsNamed 3)=true:=by kernel_rfl
end Go.Proofs.YtdlcolcidohbkaaGreatDoor.containmentSound
end
