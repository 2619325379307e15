/- Checks of sums at most 1, by the kernel. Written by program. -/
import Derived.Test.YtbhholaillniiaaGreatDoorPe
import Derived.KernelRfl
set_option linter.all false
set_option maxRecDepth 100000
set_option maxHeartbeats 4000000
namespace Go.Proofs.YtbhholaillniiaaGreatDoor
open Go Go.Vse Go.Vse.Sm
def zcw{s:Nat×Nat}(h:kI s=true:=by kernel_rfl)(h1:zjo (zoh (lI s)) pr 400 171 [.ag (fr s)]=some (.ag (fr (cmN s))):=by kernel_rfl)(h2:zjo (zoh (lI s)) pr 400 170 [.ag (fr (cmN s))]=some (sgN (cmN s)):=by kernel_rfl)(h3:Ans pr 183 [.ag (fr s)] (.ag (fr s)):=by exact rA)(h4:Ans pr 110 [.ag (fr s)] (.ag (fr (cmN s))):=by exact rA)(h5:Ans pr 109 [.ag (fr (cmN s))] (sgN (cmN s)):=by exact rA):UC s:=⟨zre (zsL h) h1,zre (zsL h) h2,h3,h4,h5⟩
def zjX{s:Nat×Nat}(h:kS s=true:=by kernel_rfl)(h1:Ans pr 182 [.ag zP,.ag (fr s)] (.ag (fr s)):=by exact rA)(h2:zjo (zoh (lS s)) pr 400 170 [.ag (fr s)]=some (sgN s):=by kernel_rfl)(h3:Ans pr 109 [.ag (fr s)] (sgN s):=by exact rA):UZq s:=⟨h1,zre (znq h) h2,h3⟩
def uC0:UC (0,1):=zcw
def uC1:UC (1,2):=zcw
def uC2:UC (1,3):=zcw
def uC3:UC (2,3):=zcw
def uC4:UC (1,4):=zcw
def uC5:UC (1,1):=zcw
def uC6:UC (3,5):=zcw
def uC7:UC (1,7):=zcw
def uC8:UC (5,6):=zcw
def uC10:UC (3,4):=zcw
def uC13:UC (9,14):=zcw
def uC14:UC (7,12):=zcw
def uC16:UC (14,15):=zcw
def uC17:UC (10,21):=zcw
def uC18:UC (11,12):=zcw
def uC21:UC (17,21):=zcw
def uC23:UC (17,20):=zcw
def uC24:UC (11,28):=zcw
def uC29:UC (26,35):=zcw
def uC30:UC (2,7):=zcw
def uC34:UC (41,42):=zcw
def uC41:UC (25,28):=zcw
def uC47:UC (11,14):=zcw
def uC50:UC (61,84):=zcw
def uC56:UC (13,21):=zcw
def uC65:UC (20,21):=zcw
def uC70:UC (139,140):=zcw
def uC71:UC (15,28):=zcw
def uC80:UC (31,35):=zcw
def uC81:UC (3,7):=zcw
def uC:zat (fun s=>le1 s=true->UC s) DI:=⟨fun _=>uC0,fun _=>uC1,fun _=>uC2,fun _=>uC3,fun _=>uC4,fun _=>uC5,fun _=>uC6,fun _=>uC7,fun _=>uC8,nofun,fun _=>uC10,nofun,nofun,fun _=>uC13,fun _=>uC14,nofun,fun _=>uC16,fun _=>uC17,fun _=>uC18,nofun,nofun,fun _=>uC21,nofun,fun _=>uC23,fun _=>uC24,nofun,nofun,nofun,nofun,fun _=>uC29,fun _=>uC30,nofun,nofun,nofun,fun _=>uC34,nofun,nofun,nofun,nofun,nofun,nofun,fun _=>uC41,nofun,nofun,nofun,nofun,nofun,fun _=>uC47,nofun,nofun,fun _=>uC50,nofun,nofun,nofun,nofun,nofun,fun _=>uC56,nofun,nofun,nofun,nofun,nofun,nofun,nofun,nofun,fun _=>uC65,nofun,nofun,nofun,nofun,fun _=>uC70,fun _=>uC71,nofun,nofun,nofun,nofun,nofun,nofun,nofun,nofun,fun _=>uC80,fun _=>uC81,trivial⟩
def uY0:UZq (1,2):=zjX
def uY1:UZq (1,3):=zjX
def uY2:UZq (2,3):=zjX
def uY3:UZq (1,4):=zjX
def uY4:UZq (1,1):=zjX
def uY5:UZq (0,1):=zjX
def uY6:UZq (3,5):=zjX
def uY7:UZq (1,7):=zjX
def uZ:zat UZq PN:=⟨uY0,uY1,uY2,uY3,uY4,uY5,uY6,uY7,trivial⟩
def uZ0:Ans pr 183 [.ag zP] (.ag (fr (0,1))):=rA
end Go.Proofs.YtbhholaillniiaaGreatDoor
