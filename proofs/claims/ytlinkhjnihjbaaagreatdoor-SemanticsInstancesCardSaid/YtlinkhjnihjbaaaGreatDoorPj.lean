/- Sums in the reference, by the kernel. Written by program. -/
import Derived.Test.YtlinkhjnihjbaaaGreatDoorPh
import Derived.KernelRfl
set_option linter.all false
set_option maxRecDepth 100000
set_option maxHeartbeats 4000000
namespace Go.Proofs.YtlinkhjnihjbaaaGreatDoor
open Go Go.Vse Go.Vse.Sm
def uA1:zaL (UA (1,2)) PN:=by repeat (first|exact trivial|refine And.intro (zcs _ _ (by kernel_rfl) (by kernel_rfl) (by kernel_rfl) (by kernel_rfl)) ?_)
def uA3:zaL (UA (2,3)) PN:=by repeat (first|exact trivial|refine And.intro (zcs _ _ (by kernel_rfl) (by kernel_rfl) (by kernel_rfl) (by kernel_rfl)) ?_)
def uA5:zaL (UA (1,1)) PN:=by repeat (first|exact trivial|refine And.intro (zcs _ _ (by kernel_rfl) (by kernel_rfl) (by kernel_rfl) (by kernel_rfl)) ?_)
def uA7:zaL (UA (1,7)) PN:=by repeat (first|exact trivial|refine And.intro (zcs _ _ (by kernel_rfl) (by kernel_rfl) (by kernel_rfl) (by kernel_rfl)) ?_)
def uA9:zaL (UA (7,6)) PN:=by repeat (first|exact trivial|refine And.intro (zcs _ _ (by kernel_rfl) (by kernel_rfl) (by kernel_rfl) (by kernel_rfl)) ?_)
def uA11:zaL (UA (3,2)) PN:=by repeat (first|exact trivial|refine And.intro (zcs _ _ (by kernel_rfl) (by kernel_rfl) (by kernel_rfl) (by kernel_rfl)) ?_)
def uA13:zaL (UA (9,14)) PN:=by repeat (first|exact trivial|refine And.intro (zcs _ _ (by kernel_rfl) (by kernel_rfl) (by kernel_rfl) (by kernel_rfl)) ?_)
def uA15:zaL (UA (4,3)) PN:=by repeat (first|exact trivial|refine And.intro (zcs _ _ (by kernel_rfl) (by kernel_rfl) (by kernel_rfl) (by kernel_rfl)) ?_)
def uA17:zaL (UA (10,21)) PN:=by repeat (first|exact trivial|refine And.intro (zcs _ _ (by kernel_rfl) (by kernel_rfl) (by kernel_rfl) (by kernel_rfl)) ?_)
def uA19:zaL (UA (5,3)) PN:=by repeat (first|exact trivial|refine And.intro (zcs _ _ (by kernel_rfl) (by kernel_rfl) (by kernel_rfl) (by kernel_rfl)) ?_)
def uA21:zaL (UA (17,21)) PN:=by repeat (first|exact trivial|refine And.intro (zcs _ _ (by kernel_rfl) (by kernel_rfl) (by kernel_rfl) (by kernel_rfl)) ?_)
def uA23:zaL (UA (17,20)) PN:=by repeat (first|exact trivial|refine And.intro (zcs _ _ (by kernel_rfl) (by kernel_rfl) (by kernel_rfl) (by kernel_rfl)) ?_)
def uA25:zaL (UA (2,1)) PN:=by repeat (first|exact trivial|refine And.intro (zcs _ _ (by kernel_rfl) (by kernel_rfl) (by kernel_rfl) (by kernel_rfl)) ?_)
def uA27:zaL (UA (8,7)) PN:=by repeat (first|exact trivial|refine And.intro (zcs _ _ (by kernel_rfl) (by kernel_rfl) (by kernel_rfl) (by kernel_rfl)) ?_)
def uA29:zaL (UA (26,35)) PN:=by repeat (first|exact trivial|refine And.intro (zcs _ _ (by kernel_rfl) (by kernel_rfl) (by kernel_rfl) (by kernel_rfl)) ?_)
end Go.Proofs.YtlinkhjnihjbaaaGreatDoor
