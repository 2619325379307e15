/- Common divisors and quotients of small numbers in the reference, by the kernel. Written by program. -/
import Derived.Test.YtlinkhjnihjbaaaGreatDoorPa
import Derived.KernelRfl
set_option linter.all false
set_option maxRecDepth 100000
set_option maxHeartbeats 4000000
namespace Go.Proofs.YtlinkhjnihjbaaaGreatDoor
open Go Go.Vse Go.Vse.Sm
def gA1:zaL PG gT1:=by repeat (first|exact trivial|refine And.intro (zab (n:=1000) (zad pr) (by kernel_rfl)) ?_)
def gA7:zaL PG gT7:=by repeat (first|exact trivial|refine And.intro (zab (n:=1000) (zad pr) (by kernel_rfl)) ?_)
def vA5:zaL PV vT5:=by repeat (first|exact trivial|refine And.intro (zab (n:=1000) (zad pr) (by kernel_rfl)) ?_)
def vA11:zaL PV vT11:=by repeat (first|exact trivial|refine And.intro (zab (n:=1000) (zad pr) (by kernel_rfl)) ?_)
end Go.Proofs.YtlinkhjnihjbaaaGreatDoor
