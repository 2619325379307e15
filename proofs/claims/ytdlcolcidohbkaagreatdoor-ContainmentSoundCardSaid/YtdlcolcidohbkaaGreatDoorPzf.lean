/- Homomorphisms between the queries of the table, by closed runs. Written by program. -/
import Derived.Test.YtdlcolcidohbkaaGreatDoorPn
import Derived.KernelRfl
set_option linter.all false
set_option maxRecDepth 100000
set_option maxHeartbeats 4000000
namespace Go.Proofs.YtdlcolcidohbkaaGreatDoor
open Go Go.Vse Go.Vse.Sm
def zOx:EX 2 33:=eX
end Go.Proofs.YtdlcolcidohbkaaGreatDoor
