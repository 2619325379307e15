/- Checks of sums at most 1, by the kernel. Written by program. -/
import Derived.Test.YtdlcolcidohbkaaGreatDoorPe
import Derived.KernelRfl
set_option linter.all false
set_option maxRecDepth 100000
set_option maxHeartbeats 4000000
namespace Go.Proofs.YtdlcolcidohbkaaGreatDoor
open Go Go.Vse Go.Vse.Sm
def zcz{s:Nat×Nat}(h:kI s=true:=by kernel_rfl)(h1:zkC (zpy (lI s)) pr 400 158 [.ag (fr s)]=some (.ag (fr (cmN s))):=by kernel_rfl)(h2:zkC (zpy (lI s)) pr 400 157 [.ag (fr (cmN s))]=some (sgN (cmN s)):=by kernel_rfl)(h3:Ans pr 179 [.ag (fr s)] (.ag (fr s)):=by exact rA)(h4:Ans pr 99 [.ag (fr s)] (.ag (fr (cmN s))):=by exact rA)(h5:Ans pr 98 [.ag (fr (cmN s))] (sgN (cmN s)):=by exact rA):UC s:=⟨zrV (zto h) h1,zrV (zto h) h2,h3,h4,h5⟩
def zk5{s:Nat×Nat}(h:kS s=true:=by kernel_rfl)(h1:Ans pr 178 [.ag zP,.ag (fr s)] (.ag (fr s)):=by exact rA)(h2:zkC (zpy (lS s)) pr 400 157 [.ag (fr s)]=some (sgN s):=by kernel_rfl)(h3:Ans pr 98 [.ag (fr s)] (sgN s):=by exact rA):UZq s:=⟨h1,zrV (zov h) h2,h3⟩
def uC0:UC (0,1):=zcz
def uC1:UC (1,2):=zcz
def uC2:UC (1,3):=zcz
def uC3:UC (2,3):=zcz
def uC4:UC (1,4):=zcz
def uC5:UC (1,1):=zcz
def uC6:UC (3,5):=zcz
def uC7:UC (1,7):=zcz
def uC8:UC (5,6):=zcz
def uC10:UC (3,4):=zcz
def uC13:UC (9,14):=zcz
def uC14:UC (7,12):=zcz
def uC16:UC (14,15):=zcz
def uC17:UC (10,21):=zcz
def uC18:UC (11,12):=zcz
def uC21:UC (17,21):=zcz
def uC23:UC (17,20):=zcz
def uC24:UC (11,28):=zcz
def uC29:UC (26,35):=zcz
def uC30:UC (2,7):=zcz
def uC34:UC (41,42):=zcz
def uC41:UC (25,28):=zcz
def uC47:UC (11,14):=zcz
def uC50:UC (61,84):=zcz
def uC56:UC (13,21):=zcz
def uC65:UC (20,21):=zcz
def uC70:UC (139,140):=zcz
def uC71:UC (15,28):=zcz
def uC80:UC (31,35):=zcz
def uC81:UC (3,7):=zcz
def uC:zaF (fun s=>le1 s=true->UC s) DI:=⟨fun _=>uC0,fun _=>uC1,fun _=>uC2,fun _=>uC3,fun _=>uC4,fun _=>uC5,fun _=>uC6,fun _=>uC7,fun _=>uC8,nofun,fun _=>uC10,nofun,nofun,fun _=>uC13,fun _=>uC14,nofun,fun _=>uC16,fun _=>uC17,fun _=>uC18,nofun,nofun,fun _=>uC21,nofun,fun _=>uC23,fun _=>uC24,nofun,nofun,nofun,nofun,fun _=>uC29,fun _=>uC30,nofun,nofun,nofun,fun _=>uC34,nofun,nofun,nofun,nofun,nofun,nofun,fun _=>uC41,nofun,nofun,nofun,nofun,nofun,fun _=>uC47,nofun,nofun,fun _=>uC50,nofun,nofun,nofun,nofun,nofun,fun _=>uC56,nofun,nofun,nofun,nofun,nofun,nofun,nofun,nofun,fun _=>uC65,nofun,nofun,nofun,nofun,fun _=>uC70,fun _=>uC71,nofun,nofun,nofun,nofun,nofun,nofun,nofun,nofun,fun _=>uC80,fun _=>uC81,trivial⟩
def uY0:UZq (1,2):=zk5
def uY1:UZq (1,3):=zk5
def uY2:UZq (2,3):=zk5
def uY3:UZq (1,4):=zk5
def uY4:UZq (1,1):=zk5
def uY5:UZq (0,1):=zk5
def uY6:UZq (3,5):=zk5
def uY7:UZq (1,7):=zk5
def uZ:zaF UZq PN:=⟨uY0,uY1,uY2,uY3,uY4,uY5,uY6,uY7,trivial⟩
def uZ0:Ans pr 179 [.ag zP] (.ag (fr (0,1))):=rA
end Go.Proofs.YtdlcolcidohbkaaGreatDoor
