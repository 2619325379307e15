/- Sums in the reference, by the kernel. Written by program. -/
import Derived.Test.YtdlcolcidohbkaaGreatDoorPe
import Derived.KernelRfl
set_option linter.all false
set_option maxRecDepth 100000
set_option maxHeartbeats 4000000
section
namespace Go.Proofs.YtdlcolcidohbkaaGreatDoor
open Go Go.Vse Go.Vse.Sm
def uA0:zaF (UA (0,1)) PN:=uAr
def uA2:zaF (UA (1,3)) PN:=uAr
def uA4:zaF (UA (1,4)) PN:=uAr
def uA6:zaF (UA (3,5)) PN:=uAr
def uA8:zaF (UA (5,6)) PN:=uAr
def uA10:zaF (UA (3,4)) PN:=uAr
def uA12:zaF (UA (11,10)) PN:=uAr
def uA14:zaF (UA (7,12)) PN:=uAr
def uA16:zaF (UA (14,15)) PN:=uAr
def uA18:zaF (UA (11,12)) PN:=uAr
def uA20:zaF (UA (19,15)) PN:=uAr
def uA22:zaF (UA (5,4)) PN:=uAr
def uA24:zaF (UA (11,28)) PN:=uAr
def uA26:zaF (UA (8,5)) PN:=uAr
def uA28:zaF (UA (6,5)) PN:=uAr
def uA30:zaF (UA (2,7)) PN:=uAr
end Go.Proofs.YtdlcolcidohbkaaGreatDoor
end
section
namespace Go.Proofs.YtdlcolcidohbkaaGreatDoor
open Go Go.Vse Go.Vse.Sm
def uA1:zaF (UA (1,2)) PN:=uAr
def uA3:zaF (UA (2,3)) PN:=uAr
def uA5:zaF (UA (1,1)) PN:=uAr
def uA7:zaF (UA (1,7)) PN:=uAr
def uA9:zaF (UA (7,6)) PN:=uAr
def uA11:zaF (UA (3,2)) PN:=uAr
def uA13:zaF (UA (9,14)) PN:=uAr
def uA15:zaF (UA (4,3)) PN:=uAr
def uA17:zaF (UA (10,21)) PN:=uAr
def uA19:zaF (UA (5,3)) PN:=uAr
def uA21:zaF (UA (17,21)) PN:=uAr
def uA23:zaF (UA (17,20)) PN:=uAr
def uA25:zaF (UA (2,1)) PN:=uAr
def uA27:zaF (UA (8,7)) PN:=uAr
def uA29:zaF (UA (26,35)) PN:=uAr
end Go.Proofs.YtdlcolcidohbkaaGreatDoor
end
section
namespace Go.Proofs.YtdlcolcidohbkaaGreatDoor
open Go Go.Vse Go.Vse.Sm
def uA:zaF (fun s=>zaF (UA s) PN) DA:=⟨uA0,uA1,uA2,uA3,uA4,uA5,uA6,uA7,uA8,uA9,uA10,uA11,uA12,uA13,uA14,uA15,uA16,uA17,uA18,uA19,uA20,uA21,uA22,uA23,uA24,uA25,uA26,uA27,uA28,uA29,uA30,trivial⟩
end Go.Proofs.YtdlcolcidohbkaaGreatDoor
end
