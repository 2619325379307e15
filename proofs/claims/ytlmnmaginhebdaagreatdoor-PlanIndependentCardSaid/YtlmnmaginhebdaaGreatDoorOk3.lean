/- The resolved code is what the compiler makes of the program. Written by program. -/
import Derived.Test.YtlmnmaginhebdaaGreatDoorProg
import Derived.Test.YtlmnmaginhebdaaGreatDoorPr
import Derived.KernelRfl
set_option linter.all false
namespace Go.Proofs.YtlmnmaginhebdaaGreatDoor
open Go.Vse
open Go (BinOp IntKind UnOp)
set_option maxRecDepth 100000
def c6:zad Tryz.prog pur Tryz.f6=some g6:=by kernel_rfl
def c10:zad Tryz.prog pur Tryz.f10=some g10:=by kernel_rfl
def c14:zad Tryz.prog pur Tryz.f14=some g14:=by kernel_rfl
def c18:zad Tryz.prog pur Tryz.f18=some g18:=by kernel_rfl
def c22:zad Tryz.prog pur Tryz.f22=some g22:=by kernel_rfl
def c26:zad Tryz.prog pur Tryz.f26=some g26:=by kernel_rfl
def c30:zad Tryz.prog pur Tryz.f30=some g30:=by kernel_rfl
def c34:zad Tryz.prog pur Tryz.f34=some g34:=by kernel_rfl
def c38:zad Tryz.prog pur Tryz.f38=some g38:=by kernel_rfl
def c42:zad Tryz.prog pur Tryz.f42=some g42:=by kernel_rfl
def c47:zad Tryz.prog pur Tryz.f47=some g47:=by kernel_rfl
def c51:zad Tryz.prog pur Tryz.f51=some g51:=by kernel_rfl
def c55:zad Tryz.prog pur Tryz.f55=some g55:=by kernel_rfl
def c59:zad Tryz.prog pur Tryz.f59=some g59:=by kernel_rfl
def c63:zad Tryz.prog pur Tryz.f63=some g63:=by kernel_rfl
def c67:zad Tryz.prog pur Tryz.f67=some g67:=by kernel_rfl
def c71:zad Tryz.prog pur Tryz.f71=some g71:=by kernel_rfl
def c75:zad Tryz.prog pur Tryz.f75=some g75:=by kernel_rfl
def c79:zad Tryz.prog pur Tryz.f79=some g79:=by kernel_rfl
def c83:zad Tryz.prog pur Tryz.f83=some g83:=by kernel_rfl
def c88:zad Tryz.prog pur Tryz.f88=some g88:=by kernel_rfl
def c92:zad Tryz.prog pur Tryz.f92=some g92:=by kernel_rfl
def c97:zad Tryz.prog pur Tryz.f97=some g97:=by kernel_rfl
def c106:zad Tryz.prog pur Tryz.f106=some g106:=by kernel_rfl
def c110:zad Tryz.prog pur Tryz.f110=some g110:=by kernel_rfl
def c114:zad Tryz.prog pur Tryz.f114=some zDe:=by kernel_rfl
def c120:zad Tryz.prog pur Tryz.f120=some g120:=by kernel_rfl
def c130:zad Tryz.prog pur Tryz.f130=some g130:=by kernel_rfl
def c134:zad Tryz.prog pur Tryz.f134=some g134:=by kernel_rfl
def c138:zad Tryz.prog pur Tryz.f138=some zDf:=by kernel_rfl
def c143:zad Tryz.prog pur Tryz.f143=some zDk:=by kernel_rfl
def c147:zad Tryz.prog pur Tryz.f147=some g147:=by kernel_rfl
def c151:zad Tryz.prog pur Tryz.f151=some g151:=by kernel_rfl
def c156:zad Tryz.prog pur Tryz.f156=some g156:=by kernel_rfl
def c162:zad Tryz.prog pur Tryz.f162=some g162:=by kernel_rfl
def c166:zad Tryz.prog pur Tryz.f166=some g166:=by kernel_rfl
def c170:zad Tryz.prog pur Tryz.f170=some g170:=by kernel_rfl
def c175:zad Tryz.prog pur Tryz.f175=some g175:=by kernel_rfl
def c180:zad Tryz.prog pur Tryz.f180=some g180:=by kernel_rfl
def c184:zad Tryz.prog pur Tryz.f184=some g184:=by kernel_rfl
def c194:zad Tryz.prog pur Tryz.f194=some g194:=by kernel_rfl
def c201:zad Tryz.prog pur Tryz.f201=some g201:=by kernel_rfl
def c216:zad Tryz.prog pur Tryz.f216=some g216:=by kernel_rfl
def c229:zad Tryz.prog pur Tryz.f229=some g229:=by kernel_rfl
def c233:zad Tryz.prog pur Tryz.f233=some g233:=by kernel_rfl
def c237:zad Tryz.prog pur Tryz.f237=some g237:=by kernel_rfl
def c241:zad Tryz.prog pur Tryz.f241=some g241:=by kernel_rfl
def c246:zad Tryz.prog pur Tryz.f246=some g246:=by kernel_rfl
def c252:zad Tryz.prog pur Tryz.f252=some g252:=by kernel_rfl
def c257:zad Tryz.prog pur Tryz.f257=some g257:=by kernel_rfl
def c279:zad Tryz.prog pur Tryz.f279=some g279:=by kernel_rfl
def c291:zad Tryz.prog pur Tryz.f291=some g291:=by kernel_rfl
def c342:zad Tryz.prog pur Tryz.f342=some g342:=by kernel_rfl
end Go.Proofs.YtlmnmaginhebdaaGreatDoor
