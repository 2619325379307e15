/- Common divisors and quotients of small numbers in the reference, by the kernel. Written by program. -/
import Derived.Test.YtbhholaillniiaaGreatDoorPa
import Derived.KernelRfl
set_option linter.all false
set_option maxRecDepth 100000
set_option maxHeartbeats 4000000
section
namespace Go.Proofs.YtbhholaillniiaaGreatDoor
open Go Go.Vse Go.Vse.Sm
def gA0:zat PG gT0:=by repeat (first|exact trivial|refine And.intro rA ?_)
def gA6:zat PG gT6:=by repeat (first|exact trivial|refine And.intro rA ?_)
def vA4:zat PV vT4:=by repeat (first|exact trivial|refine And.intro rA ?_)
def vA10:zat PV vT10:=by repeat (first|exact trivial|refine And.intro rA ?_)
end Go.Proofs.YtbhholaillniiaaGreatDoor
end
section
namespace Go.Proofs.YtbhholaillniiaaGreatDoor
open Go Go.Vse Go.Vse.Sm
def gA1:zat PG gT1:=by repeat (first|exact trivial|refine And.intro rA ?_)
def gA7:zat PG gT7:=by repeat (first|exact trivial|refine And.intro rA ?_)
def vA5:zat PV vT5:=by repeat (first|exact trivial|refine And.intro rA ?_)
def vA11:zat PV vT11:=by repeat (first|exact trivial|refine And.intro rA ?_)
end Go.Proofs.YtbhholaillniiaaGreatDoor
end
