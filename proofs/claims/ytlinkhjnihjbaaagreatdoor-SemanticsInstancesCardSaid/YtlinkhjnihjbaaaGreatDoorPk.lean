/- Sums in the reference, by the kernel. Written by program. -/
import Derived.Test.YtlinkhjnihjbaaaGreatDoorPi
import Derived.Test.YtlinkhjnihjbaaaGreatDoorPj
import Derived.KernelRfl
set_option linter.all false
set_option maxRecDepth 100000
set_option maxHeartbeats 4000000
namespace Go.Proofs.YtlinkhjnihjbaaaGreatDoor
open Go Go.Vse Go.Vse.Sm
def uA:zaL (fun s=>zaL (UA s) PN) DA:=⟨uA0,uA1,uA2,uA3,uA4,uA5,uA6,uA7,uA8,uA9,uA10,uA11,uA12,uA13,uA14,uA15,uA16,uA17,uA18,uA19,uA20,uA21,uA22,uA23,uA24,uA25,uA26,uA27,uA28,uA29,uA30,trivial⟩
end Go.Proofs.YtlinkhjnihjbaaaGreatDoor
