/- Common divisors and quotients of small numbers in the reference, by the kernel. Written by program. -/
import Derived.Test.YtlinkhjnihjbaaaGreatDoorPa
import Derived.KernelRfl
set_option linter.all false
set_option maxRecDepth 100000
set_option maxHeartbeats 4000000
namespace Go.Proofs.YtlinkhjnihjbaaaGreatDoor
open Go Go.Vse Go.Vse.Sm
def gA0:zaL PG gT0:=by repeat (first|exact trivial|refine And.intro (zab (n:=1000) (zad pr) (by kernel_rfl)) ?_)
def gA6:zaL PG gT6:=by repeat (first|exact trivial|refine And.intro (zab (n:=1000) (zad pr) (by kernel_rfl)) ?_)
def vA4:zaL PV vT4:=by repeat (first|exact trivial|refine And.intro (zab (n:=1000) (zad pr) (by kernel_rfl)) ?_)
def vA10:zaL PV vT10:=by repeat (first|exact trivial|refine And.intro (zab (n:=1000) (zad pr) (by kernel_rfl)) ?_)
end Go.Proofs.YtlinkhjnihjbaaaGreatDoor
