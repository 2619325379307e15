/- Sums in the reference, by the kernel. Written by program. -/
import Derived.Test.YtbhholaillniiaaGreatDoorPe
import Derived.KernelRfl
set_option linter.all false
set_option maxRecDepth 100000
set_option maxHeartbeats 4000000
section
namespace Go.Proofs.YtbhholaillniiaaGreatDoor
open Go Go.Vse Go.Vse.Sm
def uA0:zat (UA (0,1)) PN:=uAr
def uA2:zat (UA (1,3)) PN:=uAr
def uA4:zat (UA (1,4)) PN:=uAr
def uA6:zat (UA (3,5)) PN:=uAr
def uA8:zat (UA (5,6)) PN:=uAr
def uA10:zat (UA (3,4)) PN:=uAr
def uA12:zat (UA (11,10)) PN:=uAr
def uA14:zat (UA (7,12)) PN:=uAr
def uA16:zat (UA (14,15)) PN:=uAr
def uA18:zat (UA (11,12)) PN:=uAr
def uA20:zat (UA (19,15)) PN:=uAr
def uA22:zat (UA (5,4)) PN:=uAr
def uA24:zat (UA (11,28)) PN:=uAr
def uA26:zat (UA (8,5)) PN:=uAr
def uA28:zat (UA (6,5)) PN:=uAr
def uA30:zat (UA (2,7)) PN:=uAr
end Go.Proofs.YtbhholaillniiaaGreatDoor
end
section
namespace Go.Proofs.YtbhholaillniiaaGreatDoor
open Go Go.Vse Go.Vse.Sm
def uA1:zat (UA (1,2)) PN:=uAr
def uA3:zat (UA (2,3)) PN:=uAr
def uA5:zat (UA (1,1)) PN:=uAr
def uA7:zat (UA (1,7)) PN:=uAr
def uA9:zat (UA (7,6)) PN:=uAr
def uA11:zat (UA (3,2)) PN:=uAr
def uA13:zat (UA (9,14)) PN:=uAr
def uA15:zat (UA (4,3)) PN:=uAr
def uA17:zat (UA (10,21)) PN:=uAr
def uA19:zat (UA (5,3)) PN:=uAr
def uA21:zat (UA (17,21)) PN:=uAr
def uA23:zat (UA (17,20)) PN:=uAr
def uA25:zat (UA (2,1)) PN:=uAr
def uA27:zat (UA (8,7)) PN:=uAr
def uA29:zat (UA (26,35)) PN:=uAr
end Go.Proofs.YtbhholaillniiaaGreatDoor
end
section
namespace Go.Proofs.YtbhholaillniiaaGreatDoor
open Go Go.Vse Go.Vse.Sm
def uA:zat (fun s=>zat (UA s) PN) DA:=⟨uA0,uA1,uA2,uA3,uA4,uA5,uA6,uA7,uA8,uA9,uA10,uA11,uA12,uA13,uA14,uA15,uA16,uA17,uA18,uA19,uA20,uA21,uA22,uA23,uA24,uA25,uA26,uA27,uA28,uA29,uA30,trivial⟩
end Go.Proofs.YtbhholaillniiaaGreatDoor
end
