/- The resolved code is what the compiler makes of the program. Written by program. -/
import Derived.Test.YtflgmemhalhdbaaGreatDoorProg
import Derived.Test.YtflgmemhalhdbaaGreatDoorPr
import Derived.KernelRfl
set_option linter.all false
namespace Go.Proofs.YtflgmemhalhdbaaGreatDoor
open Go.Vse
open Go (BinOp IntKind UnOp)
set_option maxRecDepth 100000
def c6:zae Tryz.prog pur Tryz.f6=some g6:=by kernel_rfl
def c10:zae Tryz.prog pur Tryz.f10=some g10:=by kernel_rfl
def c14:zae Tryz.prog pur Tryz.f14=some g14:=by kernel_rfl
def c18:zae Tryz.prog pur Tryz.f18=some g18:=by kernel_rfl
def c22:zae Tryz.prog pur Tryz.f22=some g22:=by kernel_rfl
def c26:zae Tryz.prog pur Tryz.f26=some g26:=by kernel_rfl
def c30:zae Tryz.prog pur Tryz.f30=some g30:=by kernel_rfl
def c34:zae Tryz.prog pur Tryz.f34=some g34:=by kernel_rfl
def c38:zae Tryz.prog pur Tryz.f38=some g38:=by kernel_rfl
def c42:zae Tryz.prog pur Tryz.f42=some g42:=by kernel_rfl
def c46:zae Tryz.prog pur Tryz.f46=some g46:=by kernel_rfl
def c50:zae Tryz.prog pur Tryz.f50=some g50:=by kernel_rfl
def c54:zae Tryz.prog pur Tryz.f54=some g54:=by kernel_rfl
def c58:zae Tryz.prog pur Tryz.f58=some g58:=by kernel_rfl
def c62:zae Tryz.prog pur Tryz.f62=some g62:=by kernel_rfl
def c66:zae Tryz.prog pur Tryz.f66=some g66:=by kernel_rfl
def c70:zae Tryz.prog pur Tryz.f70=some g70:=by kernel_rfl
def c74:zae Tryz.prog pur Tryz.f74=some g74:=by kernel_rfl
def c78:zae Tryz.prog pur Tryz.f78=some g78:=by kernel_rfl
def c82:zae Tryz.prog pur Tryz.f82=some g82:=by kernel_rfl
def c86:zae Tryz.prog pur Tryz.f86=some g86:=by kernel_rfl
def c90:zae Tryz.prog pur Tryz.f90=some g90:=by kernel_rfl
def c94:zae Tryz.prog pur Tryz.f94=some g94:=by kernel_rfl
def c98:zae Tryz.prog pur Tryz.f98=some g98:=by kernel_rfl
def c102:zae Tryz.prog pur Tryz.f102=some g102:=by kernel_rfl
def c106:zae Tryz.prog pur Tryz.f106=some zy5:=by kernel_rfl
def c110:zae Tryz.prog pur Tryz.f110=some zza:=by kernel_rfl
def c114:zae Tryz.prog pur Tryz.f114=some zze:=by kernel_rfl
def c122:zae Tryz.prog pur Tryz.f122=some zuF:=by kernel_rfl
def c134:zae Tryz.prog pur Tryz.f134=some zzx:=by kernel_rfl
def c139:zae Tryz.prog pur Tryz.f139=some g139:=by kernel_rfl
def c152:zae Tryz.prog pur Tryz.f152=some g152:=by kernel_rfl
def c156:zae Tryz.prog pur Tryz.f156=some g156:=by kernel_rfl
def c160:zae Tryz.prog pur Tryz.f160=some g160:=by kernel_rfl
def c164:zae Tryz.prog pur Tryz.f164=some g164:=by kernel_rfl
def c168:zae Tryz.prog pur Tryz.f168=some g168:=by kernel_rfl
end Go.Proofs.YtflgmemhalhdbaaGreatDoor
