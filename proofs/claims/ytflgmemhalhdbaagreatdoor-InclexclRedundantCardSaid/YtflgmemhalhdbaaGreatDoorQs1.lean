/- Closed runs. Written by program. -/
import Derived.Test.YtflgmemhalhdbaaGreatDoorQsE
import Derived.Test.YtflgmemhalhdbaaGreatDoorQs0
import Derived.KernelRfl
set_option linter.all false
section
namespace Go.Proofs.YtflgmemhalhdbaaGreatDoor
open Go.Vse
open Go (BinOp IntKind UnOp)
set_option maxRecDepth 100000
theorem Qs154:zaB pr zN7:=
 zaC (mask:=0) (n:=400) (l:=[]) trivial (by kernel_rfl)
theorem Qs156:zaB pr zOa:=
 zaC (mask:=0) (n:=400) (l:=[]) trivial (by kernel_rfl)
theorem zGH:zaB pr zOc:=
 zaC (mask:=0) (n:=400) (l:=[]) trivial (by kernel_rfl)
theorem Qs164:zaB pr zOd:=
 zaC (mask:=174224571863520493293247799005065324265472) (n:=400) (l:=[znk]) ⟨ztt,trivial⟩ (by kernel_rfl)
theorem Qs168:zaB pr zOi:=
 zaC (mask:=174224571863520493293247799005065324265472) (n:=400) (l:=[znl]) ⟨ztv,trivial⟩ (by kernel_rfl)
theorem Qs172:zaB pr zOo:=
 zaC (mask:=174224571863520493293247799005065324265472) (n:=400) (l:=[zkt]) ⟨zpe,trivial⟩ (by kernel_rfl)
theorem zGI:zaB pr zOp:=
 zaC (mask:=0) (n:=400) (l:=[]) trivial (by kernel_rfl)
theorem Qs176:zaB pr zOq:=
 zaC (mask:=0) (n:=400) (l:=[]) trivial (by kernel_rfl)
theorem Qs180:zaB pr zOr:=
 zaC (mask:=174224571863520493293247799005065324265472) (n:=400) (l:=[znk]) ⟨ztt,trivial⟩ (by kernel_rfl)
theorem Qs184:zaB pr zOs:=
 zaC (mask:=174224571863520493293247799005065324265472) (n:=400) (l:=[znl]) ⟨ztv,trivial⟩ (by kernel_rfl)
theorem Qs188:zaB pr zOu:=
 zaC (mask:=174224571863520493293247799005065324265472) (n:=400) (l:=[zkt]) ⟨zpe,trivial⟩ (by kernel_rfl)
theorem Qs190:zaB pr zOw:=
 zaC (mask:=0) (n:=400) (l:=[]) trivial (by kernel_rfl)
end Go.Proofs.YtflgmemhalhdbaaGreatDoor
end
section
namespace Go.Proofs.YtflgmemhalhdbaaGreatDoor
open Go.Vse
open Go (BinOp IntKind UnOp)
set_option maxRecDepth 100000
theorem Qs192:zaB pr zOx:=
 zaC (mask:=0) (n:=400) (l:=[]) trivial (by kernel_rfl)
theorem Qs194:zaB pr zOy:=
 zaC (mask:=0) (n:=400) (l:=[]) trivial (by kernel_rfl)
theorem Qs196:zaB pr zOz:=
 zaC (mask:=0) (n:=400) (l:=[]) trivial (by kernel_rfl)
theorem Qs197:zaB pr zOB:=
 zaC (mask:=0) (n:=400) (l:=[]) trivial (by kernel_rfl)
theorem Qs198:zaB pr zOE:=
 zaC (mask:=0) (n:=400) (l:=[]) trivial (by kernel_rfl)
theorem Qs224:zaB pr zAT:=
 zaC (mask:=0) (n:=400) (l:=[]) trivial (by kernel_rfl)
theorem zyg:zaB pr zph:=
 zaC (mask:=0) (n:=400) (l:=[]) trivial (by kernel_rfl)
theorem Qs241:zaB pr zAX:=
 zaC (mask:=36893488147419103232) (n:=400) (l:=[zph]) ⟨zyg,trivial⟩ (by kernel_rfl)
theorem Qs255:zaB pr zAY:=
 zaC (mask:=0) (n:=400) (l:=[]) trivial (by kernel_rfl)
theorem Qs258:zaB pr zA0:=
 zaC (mask:=0) (n:=400) (l:=[]) trivial (by kernel_rfl)
theorem Qs284:zaB pr zA2:=
 zaC (mask:=0) (n:=400) (l:=[]) trivial (by kernel_rfl)
theorem zyh:zaB pr zpi:=
 zaC (mask:=0) (n:=400) (l:=[]) trivial (by kernel_rfl)
theorem Qs305:zaB pr zA3:=
 zaC (mask:=36893488147419103232) (n:=400) (l:=[zAY,zA0,zA2,zpi]) ⟨Qs255,Qs258,Qs284,zyh,trivial⟩ (by kernel_rfl)
theorem Qs321:zaB pr zA7:=
 zaC (mask:=36893488147419103232) (n:=400) (l:=[zph,zpi]) ⟨zyg,zyh,trivial⟩ (by kernel_rfl)
theorem Qs323:zaB pr zA9:=
 zaC (mask:=36893488164666082304) (n:=400) (l:=[zAT,zph,zAX,zpi,zA3,zA7]) ⟨Qs224,zyg,Qs241,zyh,Qs305,Qs321,trivial⟩ (by kernel_rfl)
theorem Qs325:zaB pr zOF:=
 zaC (mask:=262144) (n:=400) (l:=[zA9]) ⟨Qs323,trivial⟩ (by kernel_rfl)
theorem Qs326:zaB pr zOG:=
 zaC (mask:=8796093022208) (n:=400) (l:=[zym]) ⟨Qs64,trivial⟩ (by kernel_rfl)
theorem Qs327:zaB pr zOH:=
 zaC (mask:=8796093022208) (n:=400) (l:=[zyo]) ⟨Qs86,trivial⟩ (by kernel_rfl)
theorem Qs328:zaB pr zOI:=
 zaC (mask:=8796093022208) (n:=400) (l:=[ztw]) ⟨zGn,trivial⟩ (by kernel_rfl)
theorem Qs332:zaB pr zOJ:=
 zaC (mask:=0) (n:=400) (l:=[]) trivial (by kernel_rfl)
theorem Qs336:zaB pr zOL:=
 zaC (mask:=0) (n:=400) (l:=[]) trivial (by kernel_rfl)
theorem Qs340:zaB pr zON:=
 zaC (mask:=0) (n:=400) (l:=[]) trivial (by kernel_rfl)
theorem Qs344:zaB pr zOO:=
 zaC (mask:=0) (n:=400) (l:=[]) trivial (by kernel_rfl)
theorem Qs348:zaB pr zOR:=
 zaC (mask:=0) (n:=400) (l:=[]) trivial (by kernel_rfl)
theorem Qs352:zaB pr zOT:=
 zaC (mask:=0) (n:=400) (l:=[]) trivial (by kernel_rfl)
theorem Qs356:zaB pr zOU:=
 zaC (mask:=0) (n:=400) (l:=[]) trivial (by kernel_rfl)
theorem Qs360:zaB pr zOV:=
 zaC (mask:=0) (n:=400) (l:=[]) trivial (by kernel_rfl)
theorem Qs364:zaB pr zOW:=
 zaC (mask:=0) (n:=400) (l:=[]) trivial (by kernel_rfl)
theorem Qs368:zaB pr zOX:=
 zaC (mask:=0) (n:=400) (l:=[]) trivial (by kernel_rfl)
theorem Qs372:zaB pr zOY:=
 zaC (mask:=0) (n:=400) (l:=[]) trivial (by kernel_rfl)
theorem Qs376:zaB pr zOZ:=
 zaC (mask:=0) (n:=400) (l:=[]) trivial (by kernel_rfl)
theorem Qs380:zaB pr zO0:=
 zaC (mask:=0) (n:=400) (l:=[]) trivial (by kernel_rfl)
theorem Qs384:zaB pr zO1:=
 zaC (mask:=0) (n:=400) (l:=[]) trivial (by kernel_rfl)
theorem Qs388:zaB pr zO2:=
 zaC (mask:=0) (n:=400) (l:=[]) trivial (by kernel_rfl)
theorem Qs392:zaB pr zO4:=
 zaC (mask:=0) (n:=400) (l:=[]) trivial (by kernel_rfl)
theorem Qs396:zaB pr zO6:=
 zaC (mask:=0) (n:=400) (l:=[]) trivial (by kernel_rfl)
theorem Qs400:zaB pr zO8:=
 zaC (mask:=0) (n:=400) (l:=[]) trivial (by kernel_rfl)
theorem Qs404:zaB pr zO9:=
 zaC (mask:=0) (n:=400) (l:=[]) trivial (by kernel_rfl)
theorem Qs408:zaB pr zPa:=
 zaC (mask:=0) (n:=400) (l:=[]) trivial (by kernel_rfl)
theorem Qs412:zaB pr zPb:=
 zaC (mask:=0) (n:=400) (l:=[]) trivial (by kernel_rfl)
theorem Qs416:zaB pr zPc:=
 zaC (mask:=0) (n:=400) (l:=[]) trivial (by kernel_rfl)
theorem Qs420:zaB pr zPd:=
 zaC (mask:=0) (n:=400) (l:=[]) trivial (by kernel_rfl)
theorem Qs423:zaB pr zPh:=
 zaC (mask:=0) (n:=400) (l:=[]) trivial (by kernel_rfl)
theorem Qs425:zaB pr zPj:=
 zaC (mask:=0) (n:=400) (l:=[]) trivial (by kernel_rfl)
theorem Qs427:zaB pr zPk:=
 zaC (mask:=0) (n:=400) (l:=[]) trivial (by kernel_rfl)
theorem Qs429:zaB pr zPm:=
 zaC (mask:=0) (n:=400) (l:=[]) trivial (by kernel_rfl)
theorem Qs430:zaB pr zPn:=
 zaC (mask:=0) (n:=400) (l:=[]) trivial (by kernel_rfl)
theorem Qs431:zaB pr zPp:=
 zaC (mask:=0) (n:=400) (l:=[]) trivial (by kernel_rfl)
theorem Qs432:zaB pr zPq:=
 zaC (mask:=0) (n:=400) (l:=[]) trivial (by kernel_rfl)
theorem Qs433:zaB pr zPr:=
 zaC (mask:=0) (n:=400) (l:=[]) trivial (by kernel_rfl)
theorem Qs434:zaB pr zPs:=
 zaC (mask:=0) (n:=400) (l:=[]) trivial (by kernel_rfl)
theorem Qs436:zaB pr zPt:=
 zaC (mask:=0) (n:=400) (l:=[]) trivial (by kernel_rfl)
theorem Qs437:zaB pr zPu:=
 zaC (mask:=0) (n:=400) (l:=[]) trivial (by kernel_rfl)
theorem Qs438:zaB pr zPv:=
 zaC (mask:=0) (n:=400) (l:=[]) trivial (by kernel_rfl)
theorem Qs439:zaB pr zPw:=
 zaC (mask:=0) (n:=400) (l:=[]) trivial (by kernel_rfl)
theorem Qs441:zaB pr zPx:=
 zaC (mask:=0) (n:=400) (l:=[]) trivial (by kernel_rfl)
theorem Qs442:zaB pr zPC:=
 zaC (mask:=0) (n:=400) (l:=[]) trivial (by kernel_rfl)
theorem Qs443:zaB pr zPD:=
 zaC (mask:=0) (n:=400) (l:=[]) trivial (by kernel_rfl)
theorem Qs444:zaB pr zPE:=
 zaC (mask:=0) (n:=400) (l:=[]) trivial (by kernel_rfl)
end Go.Proofs.YtflgmemhalhdbaaGreatDoor
end
