/- Sums in the program, by the kernel. Written by program. -/
import Derived.Test.YtdlcolcidohbkaaGreatDoorPa
import Derived.KernelRfl
set_option linter.all false
set_option maxRecDepth 100000
set_option maxHeartbeats 4000000
namespace Go.Proofs.YtdlcolcidohbkaaGreatDoor
open Go Go.Vse Go.Vse.Sm
def PB(s:Nat×Nat):Prop:=zaF (fun p=>le1 (adN s p)=true->UB s p) PN
def pB{s:Nat×Nat}(h:PB s:=by repeat (first|exact trivial|exact rA|exact fun h=>Bool.noConfusion h|refine fun _=> ?_|refine And.intro ?_ ?_)):PB s:=h
def uB0:PB (0,1):=pB
def uB1:PB (1,2):=pB
def uB2:PB (1,3):=pB
def uB3:PB (2,3):=pB
def uB4:PB (1,4):=pB
def uB5:PB (1,1):=pB
def uB6:PB (3,5):=pB
def uB7:PB (1,7):=pB
def uB8:PB (5,6):=pB
def uB9:PB (7,6):=pB
def uB10:PB (3,4):=pB
def uB11:PB (3,2):=pB
def uB12:PB (11,10):=pB
def uB13:PB (9,14):=pB
def uB14:PB (7,12):=pB
def uB15:PB (4,3):=pB
def uB16:PB (14,15):=pB
def uB17:PB (10,21):=pB
def uB18:PB (11,12):=pB
def uB19:PB (5,3):=pB
def uB20:PB (19,15):=pB
def uB21:PB (17,21):=pB
def uB22:PB (5,4):=pB
def uB23:PB (17,20):=pB
def uB24:PB (11,28):=pB
def uB25:PB (2,1):=pB
def uB26:PB (8,5):=pB
def uB27:PB (8,7):=pB
def uB28:PB (6,5):=pB
def uB29:PB (26,35):=pB
def uB30:PB (2,7):=pB
def uB:zaF PB DA:=⟨uB0,uB1,uB2,uB3,uB4,uB5,uB6,uB7,uB8,uB9,uB10,uB11,uB12,uB13,uB14,uB15,uB16,uB17,uB18,uB19,uB20,uB21,uB22,uB23,uB24,uB25,uB26,uB27,uB28,uB29,uB30,trivial⟩
end Go.Proofs.YtdlcolcidohbkaaGreatDoor
