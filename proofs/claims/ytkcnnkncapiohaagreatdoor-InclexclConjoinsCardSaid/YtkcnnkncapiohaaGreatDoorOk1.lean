/- The resolved code is what the compiler makes of the program. Written by program. -/
import Derived.Test.YtkcnnkncapiohaaGreatDoorProg
import Derived.Test.YtkcnnkncapiohaaGreatDoorPr
import Derived.KernelRfl
set_option linter.all false
namespace Go.Proofs.YtkcnnkncapiohaaGreatDoor
open Go.Vse
open Go (BinOp IntKind UnOp)
set_option maxRecDepth 100000
def c4:zab Tryz.prog pur Tryz.f4=some g4:=by kernel_rfl
def c8:zab Tryz.prog pur Tryz.f8=some g8:=by kernel_rfl
def c12:zab Tryz.prog pur Tryz.f12=some g12:=by kernel_rfl
def c16:zab Tryz.prog pur Tryz.f16=some g16:=by kernel_rfl
def c20:zab Tryz.prog pur Tryz.f20=some g20:=by kernel_rfl
def c24:zab Tryz.prog pur Tryz.f24=some g24:=by kernel_rfl
def c28:zab Tryz.prog pur Tryz.f28=some g28:=by kernel_rfl
def c32:zab Tryz.prog pur Tryz.f32=some g32:=by kernel_rfl
def c36:zab Tryz.prog pur Tryz.f36=some g36:=by kernel_rfl
def c40:zab Tryz.prog pur Tryz.f40=some g40:=by kernel_rfl
def c44:zab Tryz.prog pur Tryz.f44=some g44:=by kernel_rfl
def c48:zab Tryz.prog pur Tryz.f48=some g48:=by kernel_rfl
def c52:zab Tryz.prog pur Tryz.f52=some g52:=by kernel_rfl
def c56:zab Tryz.prog pur Tryz.f56=some g56:=by kernel_rfl
def c60:zab Tryz.prog pur Tryz.f60=some g60:=by kernel_rfl
def c64:zab Tryz.prog pur Tryz.f64=some g64:=by kernel_rfl
def c68:zab Tryz.prog pur Tryz.f68=some g68:=by kernel_rfl
def c72:zab Tryz.prog pur Tryz.f72=some g72:=by kernel_rfl
def c76:zab Tryz.prog pur Tryz.f76=some g76:=by kernel_rfl
def c84:zab Tryz.prog pur Tryz.f84=some g84:=by kernel_rfl
def c88:zab Tryz.prog pur Tryz.f88=some g88:=by kernel_rfl
def c92:zab Tryz.prog pur Tryz.f92=some g92:=by kernel_rfl
def c96:zab Tryz.prog pur Tryz.f96=some g96:=by kernel_rfl
def c100:zab Tryz.prog pur Tryz.f100=some zBh:=by kernel_rfl
def c108:zab Tryz.prog pur Tryz.f108=some g108:=by kernel_rfl
def c112:zab Tryz.prog pur Tryz.f112=some g112:=by kernel_rfl
def c116:zab Tryz.prog pur Tryz.f116=some zBk:=by kernel_rfl
def c120:zab Tryz.prog pur Tryz.f120=some zBr:=by kernel_rfl
def c140:zab Tryz.prog pur Tryz.f140=some g140:=by kernel_rfl
def c152:zab Tryz.prog pur Tryz.f152=some g152:=by kernel_rfl
def c156:zab Tryz.prog pur Tryz.f156=some zBv:=by kernel_rfl
def c160:zab Tryz.prog pur Tryz.f160=some g160:=by kernel_rfl
def c168:zab Tryz.prog pur Tryz.f168=some g168:=by kernel_rfl
def c172:zab Tryz.prog pur Tryz.f172=some zBA:=by kernel_rfl
def c176:zab Tryz.prog pur Tryz.f176=some g176:=by kernel_rfl
def c184:zab Tryz.prog pur Tryz.f184=some g184:=by kernel_rfl
def c196:zab Tryz.prog pur Tryz.f196=some g196:=by kernel_rfl
def c200:zab Tryz.prog pur Tryz.f200=some g200:=by kernel_rfl
def c208:zab Tryz.prog pur Tryz.f208=some g208:=by kernel_rfl
def c212:zab Tryz.prog pur Tryz.f212=some g212:=by kernel_rfl
def c216:zab Tryz.prog pur Tryz.f216=some g216:=by kernel_rfl
def c220:zab Tryz.prog pur Tryz.f220=some g220:=by kernel_rfl
def c224:zab Tryz.prog pur Tryz.f224=some g224:=by kernel_rfl
def c228:zab Tryz.prog pur Tryz.f228=some g228:=by kernel_rfl
def c232:zab Tryz.prog pur Tryz.f232=some g232:=by kernel_rfl
def c236:zab Tryz.prog pur Tryz.f236=some g236:=by kernel_rfl
def c240:zab Tryz.prog pur Tryz.f240=some g240:=by kernel_rfl
def c244:zab Tryz.prog pur Tryz.f244=some g244:=by kernel_rfl
def c248:zab Tryz.prog pur Tryz.f248=some g248:=by kernel_rfl
def c252:zab Tryz.prog pur Tryz.f252=some g252:=by kernel_rfl
def c256:zab Tryz.prog pur Tryz.f256=some g256:=by kernel_rfl
def c260:zab Tryz.prog pur Tryz.f260=some g260:=by kernel_rfl
def c264:zab Tryz.prog pur Tryz.f264=some g264:=by kernel_rfl
def c268:zab Tryz.prog pur Tryz.f268=some g268:=by kernel_rfl
def c273:zab Tryz.prog pur Tryz.f273=some g273:=by kernel_rfl
def c277:zab Tryz.prog pur Tryz.f277=some g277:=by kernel_rfl
end Go.Proofs.YtkcnnkncapiohaaGreatDoor
