/- Sums in the reference, by the kernel. Written by program. -/
import Derived.Test.YtlinkhjnihjbaaaGreatDoorPh
import Derived.KernelRfl
set_option linter.all false
set_option maxRecDepth 100000
set_option maxHeartbeats 4000000
namespace Go.Proofs.YtlinkhjnihjbaaaGreatDoor
open Go Go.Vse Go.Vse.Sm
def uA0:zaL (UA (0,1)) PN:=by repeat (first|exact trivial|refine And.intro (zcs _ _ (by kernel_rfl) (by kernel_rfl) (by kernel_rfl) (by kernel_rfl)) ?_)
def uA2:zaL (UA (1,3)) PN:=by repeat (first|exact trivial|refine And.intro (zcs _ _ (by kernel_rfl) (by kernel_rfl) (by kernel_rfl) (by kernel_rfl)) ?_)
def uA4:zaL (UA (1,4)) PN:=by repeat (first|exact trivial|refine And.intro (zcs _ _ (by kernel_rfl) (by kernel_rfl) (by kernel_rfl) (by kernel_rfl)) ?_)
def uA6:zaL (UA (3,5)) PN:=by repeat (first|exact trivial|refine And.intro (zcs _ _ (by kernel_rfl) (by kernel_rfl) (by kernel_rfl) (by kernel_rfl)) ?_)
def uA8:zaL (UA (5,6)) PN:=by repeat (first|exact trivial|refine And.intro (zcs _ _ (by kernel_rfl) (by kernel_rfl) (by kernel_rfl) (by kernel_rfl)) ?_)
def uA10:zaL (UA (3,4)) PN:=by repeat (first|exact trivial|refine And.intro (zcs _ _ (by kernel_rfl) (by kernel_rfl) (by kernel_rfl) (by kernel_rfl)) ?_)
def uA12:zaL (UA (11,10)) PN:=by repeat (first|exact trivial|refine And.intro (zcs _ _ (by kernel_rfl) (by kernel_rfl) (by kernel_rfl) (by kernel_rfl)) ?_)
def uA14:zaL (UA (7,12)) PN:=by repeat (first|exact trivial|refine And.intro (zcs _ _ (by kernel_rfl) (by kernel_rfl) (by kernel_rfl) (by kernel_rfl)) ?_)
def uA16:zaL (UA (14,15)) PN:=by repeat (first|exact trivial|refine And.intro (zcs _ _ (by kernel_rfl) (by kernel_rfl) (by kernel_rfl) (by kernel_rfl)) ?_)
def uA18:zaL (UA (11,12)) PN:=by repeat (first|exact trivial|refine And.intro (zcs _ _ (by kernel_rfl) (by kernel_rfl) (by kernel_rfl) (by kernel_rfl)) ?_)
def uA20:zaL (UA (19,15)) PN:=by repeat (first|exact trivial|refine And.intro (zcs _ _ (by kernel_rfl) (by kernel_rfl) (by kernel_rfl) (by kernel_rfl)) ?_)
def uA22:zaL (UA (5,4)) PN:=by repeat (first|exact trivial|refine And.intro (zcs _ _ (by kernel_rfl) (by kernel_rfl) (by kernel_rfl) (by kernel_rfl)) ?_)
def uA24:zaL (UA (11,28)) PN:=by repeat (first|exact trivial|refine And.intro (zcs _ _ (by kernel_rfl) (by kernel_rfl) (by kernel_rfl) (by kernel_rfl)) ?_)
def uA26:zaL (UA (8,5)) PN:=by repeat (first|exact trivial|refine And.intro (zcs _ _ (by kernel_rfl) (by kernel_rfl) (by kernel_rfl) (by kernel_rfl)) ?_)
def uA28:zaL (UA (6,5)) PN:=by repeat (first|exact trivial|refine And.intro (zcs _ _ (by kernel_rfl) (by kernel_rfl) (by kernel_rfl) (by kernel_rfl)) ?_)
def uA30:zaL (UA (2,7)) PN:=by repeat (first|exact trivial|refine And.intro (zcs _ _ (by kernel_rfl) (by kernel_rfl) (by kernel_rfl) (by kernel_rfl)) ?_)
end Go.Proofs.YtlinkhjnihjbaaaGreatDoor
