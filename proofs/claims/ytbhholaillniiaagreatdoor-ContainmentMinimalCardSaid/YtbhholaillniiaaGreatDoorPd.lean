/- Common divisors and quotients of small numbers in the reference, by the kernel. Written by program. -/
import Derived.Test.YtbhholaillniiaaGreatDoorPa
import Derived.KernelRfl
set_option linter.all false
set_option maxRecDepth 100000
set_option maxHeartbeats 4000000
section
namespace Go.Proofs.YtbhholaillniiaaGreatDoor
open Go Go.Vse Go.Vse.Sm
def gA4:zat PG gT4:=by repeat (first|exact trivial|refine And.intro rA ?_)
def vA2:zat PV vT2:=by repeat (first|exact trivial|refine And.intro rA ?_)
def vA8:zat PV vT8:=by repeat (first|exact trivial|refine And.intro rA ?_)
end Go.Proofs.YtbhholaillniiaaGreatDoor
end
section
namespace Go.Proofs.YtbhholaillniiaaGreatDoor
open Go Go.Vse Go.Vse.Sm
def gA5:zat PG gT5:=by repeat (first|exact trivial|refine And.intro rA ?_)
def vA3:zat PV vT3:=by repeat (first|exact trivial|refine And.intro rA ?_)
def vA9:zat PV vT9:=by repeat (first|exact trivial|refine And.intro rA ?_)
end Go.Proofs.YtbhholaillniiaaGreatDoor
end
