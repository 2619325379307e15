/- A closed fact of the row: 'inPlace' is what the program gives. Conditions: none. -/
import Derived.Test.YtdlcolcidohbkaaGreatDoorRows
import Derived.KernelRfl
set_option linter.all false
section
namespace Go.Proofs.YtdlcolcidohbkaaGreatDoor.containmentSound
set_option maxRecDepth 100000
theorem fIn:(Rows.containmentSoundRow.inPlace==Tryz.prog.inPlace 3)=true:=by kernel_rfl
end Go.Proofs.YtdlcolcidohbkaaGreatDoor.containmentSound
end
section
namespace Go.Proofs.YtdlcolcidohbkaaGreatDoor.containmentSound
set_option maxRecDepth 100000
theorem fUn:(Rows.containmentSoundRow.unfollowed==Tryz.prog.unfollowed 3)=true:=by kernel_rfl
end Go.Proofs.YtdlcolcidohbkaaGreatDoor.containmentSound
end
