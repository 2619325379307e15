/- Common divisors and quotients of small numbers in the reference, by the kernel. Written by program. -/
import Derived.Test.YtbhholaillniiaaGreatDoorPa
import Derived.KernelRfl
set_option linter.all false
set_option maxRecDepth 100000
set_option maxHeartbeats 4000000
section
namespace Go.Proofs.YtbhholaillniiaaGreatDoor
open Go Go.Vse Go.Vse.Sm
def gA2:zat PG gT2:=by repeat (first|exact trivial|refine And.intro rA ?_)
def vA0:zat PV vT0:=by repeat (first|exact trivial|refine And.intro rA ?_)
def vA6:zat PV vT6:=by repeat (first|exact trivial|refine And.intro rA ?_)
def vA12:zat PV vT12:=by repeat (first|exact trivial|refine And.intro rA ?_)
end Go.Proofs.YtbhholaillniiaaGreatDoor
end
section
namespace Go.Proofs.YtbhholaillniiaaGreatDoor
open Go Go.Vse Go.Vse.Sm
def gA3:zat PG gT3:=by repeat (first|exact trivial|refine And.intro rA ?_)
def vA1:zat PV vT1:=by repeat (first|exact trivial|refine And.intro rA ?_)
def vA7:zat PV vT7:=by repeat (first|exact trivial|refine And.intro rA ?_)
end Go.Proofs.YtbhholaillniiaaGreatDoor
end
