/- Common divisors and quotients of small numbers in the reference, by the kernel. Written by program. -/
import Derived.Test.YtlinkhjnihjbaaaGreatDoorPa
import Derived.KernelRfl
set_option linter.all false
set_option maxRecDepth 100000
set_option maxHeartbeats 4000000
namespace Go.Proofs.YtlinkhjnihjbaaaGreatDoor
open Go Go.Vse Go.Vse.Sm
def gA5:zaL PG gT5:=by repeat (first|exact trivial|refine And.intro (zab (n:=1000) (zad pr) (by kernel_rfl)) ?_)
def vA3:zaL PV vT3:=by repeat (first|exact trivial|refine And.intro (zab (n:=1000) (zad pr) (by kernel_rfl)) ?_)
def vA9:zaL PV vT9:=by repeat (first|exact trivial|refine And.intro (zab (n:=1000) (zad pr) (by kernel_rfl)) ?_)
end Go.Proofs.YtlinkhjnihjbaaaGreatDoor
