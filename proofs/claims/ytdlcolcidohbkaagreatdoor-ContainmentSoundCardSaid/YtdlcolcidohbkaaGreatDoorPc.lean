/- Common divisors and quotients of small numbers in the reference, by the kernel. Written by program. -/
import Derived.Test.YtdlcolcidohbkaaGreatDoorPa
import Derived.KernelRfl
set_option linter.all false
set_option maxRecDepth 100000
set_option maxHeartbeats 4000000
section
namespace Go.Proofs.YtdlcolcidohbkaaGreatDoor
open Go Go.Vse Go.Vse.Sm
def gA2:zaF PG gT2:=by repeat (first|exact trivial|refine And.intro rA ?_)
def vA0:zaF PV vT0:=by repeat (first|exact trivial|refine And.intro rA ?_)
def vA6:zaF PV vT6:=by repeat (first|exact trivial|refine And.intro rA ?_)
def vA12:zaF PV vT12:=by repeat (first|exact trivial|refine And.intro rA ?_)
end Go.Proofs.YtdlcolcidohbkaaGreatDoor
end
section
namespace Go.Proofs.YtdlcolcidohbkaaGreatDoor
open Go Go.Vse Go.Vse.Sm
def gA3:zaF PG gT3:=by repeat (first|exact trivial|refine And.intro rA ?_)
def vA1:zaF PV vT1:=by repeat (first|exact trivial|refine And.intro rA ?_)
def vA7:zaF PV vT7:=by repeat (first|exact trivial|refine And.intro rA ?_)
end Go.Proofs.YtdlcolcidohbkaaGreatDoor
end
