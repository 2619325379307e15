/- Common divisors and quotients of small numbers in the reference, by the kernel. Written by program. -/
import Derived.Test.YtdlcolcidohbkaaGreatDoorPa
import Derived.KernelRfl
set_option linter.all false
set_option maxRecDepth 100000
set_option maxHeartbeats 4000000
section
namespace Go.Proofs.YtdlcolcidohbkaaGreatDoor
open Go Go.Vse Go.Vse.Sm
def gA4:zaF PG gT4:=by repeat (first|exact trivial|refine And.intro rA ?_)
def vA2:zaF PV vT2:=by repeat (first|exact trivial|refine And.intro rA ?_)
def vA8:zaF PV vT8:=by repeat (first|exact trivial|refine And.intro rA ?_)
end Go.Proofs.YtdlcolcidohbkaaGreatDoor
end
section
namespace Go.Proofs.YtdlcolcidohbkaaGreatDoor
open Go Go.Vse Go.Vse.Sm
def gA5:zaF PG gT5:=by repeat (first|exact trivial|refine And.intro rA ?_)
def vA3:zaF PV vT3:=by repeat (first|exact trivial|refine And.intro rA ?_)
def vA9:zaF PV vT9:=by repeat (first|exact trivial|refine And.intro rA ?_)
end Go.Proofs.YtdlcolcidohbkaaGreatDoor
end
