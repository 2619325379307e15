/- known. -/
import Derived.Test.YtlinkhjnihjbaaaGreatDoorQs1
set_option linter.all false
set_option maxRecDepth 100000
set_option maxHeartbeats 4000000
namespace Go.Proofs.YtlinkhjnihjbaaaGreatDoor
open Go Go.Vse
def ans10:Ans pr 10 [] (.b true):=Qs657
end Go.Proofs.YtlinkhjnihjbaaaGreatDoor
