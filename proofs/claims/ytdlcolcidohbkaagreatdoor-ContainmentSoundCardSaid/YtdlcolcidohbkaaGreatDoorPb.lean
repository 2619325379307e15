/- Common divisors and quotients of small numbers in the reference, by the kernel. Written by program. -/
import Derived.Test.YtdlcolcidohbkaaGreatDoorPa
import Derived.KernelRfl
set_option linter.all false
set_option maxRecDepth 100000
set_option maxHeartbeats 4000000
section
namespace Go.Proofs.YtdlcolcidohbkaaGreatDoor
open Go Go.Vse Go.Vse.Sm
def gA0:zaF PG gT0:=by repeat (first|exact trivial|refine And.intro rA ?_)
def gA6:zaF PG gT6:=by repeat (first|exact trivial|refine And.intro rA ?_)
def vA4:zaF PV vT4:=by repeat (first|exact trivial|refine And.intro rA ?_)
def vA10:zaF PV vT10:=by repeat (first|exact trivial|refine And.intro rA ?_)
end Go.Proofs.YtdlcolcidohbkaaGreatDoor
end
section
namespace Go.Proofs.YtdlcolcidohbkaaGreatDoor
open Go Go.Vse Go.Vse.Sm
def gA1:zaF PG gT1:=by repeat (first|exact trivial|refine And.intro rA ?_)
def gA7:zaF PG gT7:=by repeat (first|exact trivial|refine And.intro rA ?_)
def vA5:zaF PV vT5:=by repeat (first|exact trivial|refine And.intro rA ?_)
def vA11:zaF PV vT11:=by repeat (first|exact trivial|refine And.intro rA ?_)
end Go.Proofs.YtdlcolcidohbkaaGreatDoor
end
