/- Common divisors and quotients of small numbers in the reference, by the kernel. Written by program. -/
import Derived.Test.YtlinkhjnihjbaaaGreatDoorPa
import Derived.KernelRfl
set_option linter.all false
set_option maxRecDepth 100000
set_option maxHeartbeats 4000000
namespace Go.Proofs.YtlinkhjnihjbaaaGreatDoor
open Go Go.Vse Go.Vse.Sm
def gA2:zaL PG gT2:=by repeat (first|exact trivial|refine And.intro (zab (n:=1000) (zad pr) (by kernel_rfl)) ?_)
def vA0:zaL PV vT0:=by repeat (first|exact trivial|refine And.intro (zab (n:=1000) (zad pr) (by kernel_rfl)) ?_)
def vA6:zaL PV vT6:=by repeat (first|exact trivial|refine And.intro (zab (n:=1000) (zad pr) (by kernel_rfl)) ?_)
def vA12:zaL PV vT12:=by repeat (first|exact trivial|refine And.intro (zab (n:=1000) (zad pr) (by kernel_rfl)) ?_)
end Go.Proofs.YtlinkhjnihjbaaaGreatDoor
