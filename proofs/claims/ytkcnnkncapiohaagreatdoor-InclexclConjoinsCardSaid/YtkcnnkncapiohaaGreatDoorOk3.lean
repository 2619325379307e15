/- The resolved code is what the compiler makes of the program. Written by program. -/
import Derived.Test.YtkcnnkncapiohaaGreatDoorProg
import Derived.Test.YtkcnnkncapiohaaGreatDoorPr
import Derived.KernelRfl
set_option linter.all false
namespace Go.Proofs.YtkcnnkncapiohaaGreatDoor
open Go.Vse
open Go (BinOp IntKind UnOp)
set_option maxRecDepth 100000
def c6:zab Tryz.prog pur Tryz.f6=some g6:=by kernel_rfl
def c10:zab Tryz.prog pur Tryz.f10=some g10:=by kernel_rfl
def c14:Go.Vse.zab Go.Proofs.Tryz.prog (fun i=>pur i&& !(Nat.beq i 31)) Go.Proofs.Tryz.f14=some g14:=by kernel_rfl
def c18:zab Tryz.prog pur Tryz.f18=some g18:=by kernel_rfl
def c22:zab Tryz.prog pur Tryz.f22=some g22:=by kernel_rfl
def c26:zab Tryz.prog pur Tryz.f26=some g26:=by kernel_rfl
def c30:zab Tryz.prog pur Tryz.f30=some g30:=by kernel_rfl
def c34:zab Tryz.prog pur Tryz.f34=some g34:=by kernel_rfl
def c38:zab Tryz.prog pur Tryz.f38=some g38:=by kernel_rfl
def c42:zab Tryz.prog pur Tryz.f42=some g42:=by kernel_rfl
def c46:zab Tryz.prog pur Tryz.f46=some g46:=by kernel_rfl
def c50:zab Tryz.prog pur Tryz.f50=some g50:=by kernel_rfl
def c54:zab Tryz.prog pur Tryz.f54=some g54:=by kernel_rfl
def c58:zab Tryz.prog pur Tryz.f58=some g58:=by kernel_rfl
def c62:zab Tryz.prog pur Tryz.f62=some g62:=by kernel_rfl
def c66:zab Tryz.prog pur Tryz.f66=some g66:=by kernel_rfl
def c70:zab Tryz.prog pur Tryz.f70=some g70:=by kernel_rfl
def c74:zab Tryz.prog pur Tryz.f74=some g74:=by kernel_rfl
def c78:zab Tryz.prog pur Tryz.f78=some g78:=by kernel_rfl
def c90:zab Tryz.prog pur Tryz.f90=some g90:=by kernel_rfl
def c94:zab Tryz.prog pur Tryz.f94=some g94:=by kernel_rfl
def c98:zab Tryz.prog pur Tryz.f98=some g98:=by kernel_rfl
def c102:zab Tryz.prog pur Tryz.f102=some g102:=by kernel_rfl
def c106:zab Tryz.prog pur Tryz.f106=some g106:=by kernel_rfl
def c110:zab Tryz.prog pur Tryz.f110=some g110:=by kernel_rfl
def c114:zab Tryz.prog pur Tryz.f114=some g114:=by kernel_rfl
def c118:zab Tryz.prog pur Tryz.f118=some zBp:=by kernel_rfl
def c122:zab Tryz.prog pur Tryz.f122=some zBu:=by kernel_rfl
def c126:zab Tryz.prog pur Tryz.f126=some g126:=by kernel_rfl
def c130:zab Tryz.prog pur Tryz.f130=some g130:=by kernel_rfl
def c142:zab Tryz.prog pur Tryz.f142=some g142:=by kernel_rfl
def c154:zab Tryz.prog pur Tryz.f154=some g154:=by kernel_rfl
def c158:zab Tryz.prog pur Tryz.f158=some g158:=by kernel_rfl
def c162:zab Tryz.prog pur Tryz.f162=some zBx:=by kernel_rfl
def c166:zab Tryz.prog pur Tryz.f166=some g166:=by kernel_rfl
def c170:zab Tryz.prog pur Tryz.f170=some zBy:=by kernel_rfl
def c174:zab Tryz.prog pur Tryz.f174=some zBC:=by kernel_rfl
def c178:zab Tryz.prog pur Tryz.f178=some g178:=by kernel_rfl
def c186:zab Tryz.prog pur Tryz.f186=some g186:=by kernel_rfl
def c194:zab Tryz.prog pur Tryz.f194=some g194:=by kernel_rfl
def c198:zab Tryz.prog pur Tryz.f198=some g198:=by kernel_rfl
def c202:zab Tryz.prog pur Tryz.f202=some g202:=by kernel_rfl
def c206:zab Tryz.prog pur Tryz.f206=some g206:=by kernel_rfl
def c210:zab Tryz.prog pur Tryz.f210=some zBE:=by kernel_rfl
def c214:zab Tryz.prog pur Tryz.f214=some g214:=by kernel_rfl
def c218:zab Tryz.prog pur Tryz.f218=some g218:=by kernel_rfl
def c222:zab Tryz.prog pur Tryz.f222=some g222:=by kernel_rfl
def c226:zab Tryz.prog pur Tryz.f226=some g226:=by kernel_rfl
def c230:zab Tryz.prog pur Tryz.f230=some g230:=by kernel_rfl
def c234:zab Tryz.prog pur Tryz.f234=some g234:=by kernel_rfl
def c238:zab Tryz.prog pur Tryz.f238=some g238:=by kernel_rfl
def c242:zab Tryz.prog pur Tryz.f242=some g242:=by kernel_rfl
def c246:zab Tryz.prog pur Tryz.f246=some g246:=by kernel_rfl
def c250:zab Tryz.prog pur Tryz.f250=some g250:=by kernel_rfl
def c254:zab Tryz.prog pur Tryz.f254=some g254:=by kernel_rfl
def c258:zab Tryz.prog pur Tryz.f258=some g258:=by kernel_rfl
def c262:zab Tryz.prog pur Tryz.f262=some g262:=by kernel_rfl
def c266:zab Tryz.prog pur Tryz.f266=some g266:=by kernel_rfl
def c270:zab Tryz.prog pur Tryz.f270=some g270:=by kernel_rfl
def c275:zab Tryz.prog pur Tryz.f275=some g275:=by kernel_rfl
def c279:zab Tryz.prog pur Tryz.f279=some g279:=by kernel_rfl
end Go.Proofs.YtkcnnkncapiohaaGreatDoor
