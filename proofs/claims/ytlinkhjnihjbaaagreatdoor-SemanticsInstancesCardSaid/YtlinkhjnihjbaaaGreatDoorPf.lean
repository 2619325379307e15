/- Common divisors and quotients of small numbers in the reference, by the kernel. Written by program. -/
import Derived.Test.YtlinkhjnihjbaaaGreatDoorPa
import Derived.KernelRfl
set_option linter.all false
set_option maxRecDepth 100000
set_option maxHeartbeats 4000000
namespace Go.Proofs.YtlinkhjnihjbaaaGreatDoor
open Go Go.Vse Go.Vse.Sm
def gA4:zaL PG gT4:=by repeat (first|exact trivial|refine And.intro (zab (n:=1000) (zad pr) (by kernel_rfl)) ?_)
def vA2:zaL PV vT2:=by repeat (first|exact trivial|refine And.intro (zab (n:=1000) (zad pr) (by kernel_rfl)) ?_)
def vA8:zaL PV vT8:=by repeat (first|exact trivial|refine And.intro (zab (n:=1000) (zad pr) (by kernel_rfl)) ?_)
end Go.Proofs.YtlinkhjnihjbaaaGreatDoor
