/- The resolved code is what the compiler makes of the program. Written by program. -/
import Derived.Test.YtlmnmaginhebdaaGreatDoorProg
import Derived.Test.YtlmnmaginhebdaaGreatDoorPr
import Derived.KernelRfl
set_option linter.all false
namespace Go.Proofs.YtlmnmaginhebdaaGreatDoor
open Go.Vse
open Go (BinOp IntKind UnOp)
set_option maxRecDepth 100000
def c3:zad Tryz.prog pur Tryz.f3=some g3:=by kernel_rfl
def c7:zad Tryz.prog pur Tryz.f7=some g7:=by kernel_rfl
def c11:zad Tryz.prog pur Tryz.f11=some g11:=by kernel_rfl
def c15:zad Tryz.prog pur Tryz.f15=some g15:=by kernel_rfl
def c19:zad Tryz.prog pur Tryz.f19=some g19:=by kernel_rfl
def c23:zad Tryz.prog pur Tryz.f23=some g23:=by kernel_rfl
def c27:zad Tryz.prog pur Tryz.f27=some g27:=by kernel_rfl
def c31:zad Tryz.prog pur Tryz.f31=some g31:=by kernel_rfl
def c35:zad Tryz.prog pur Tryz.f35=some g35:=by kernel_rfl
def c39:zad Tryz.prog pur Tryz.f39=some g39:=by kernel_rfl
def c43:zad Tryz.prog pur Tryz.f43=some g43:=by kernel_rfl
def c48:zad Tryz.prog pur Tryz.f48=some g48:=by kernel_rfl
def c52:zad Tryz.prog pur Tryz.f52=some g52:=by kernel_rfl
def c56:zad Tryz.prog pur Tryz.f56=some g56:=by kernel_rfl
def c60:zad Tryz.prog pur Tryz.f60=some g60:=by kernel_rfl
def c64:zad Tryz.prog pur Tryz.f64=some g64:=by kernel_rfl
def c68:zad Tryz.prog pur Tryz.f68=some g68:=by kernel_rfl
def c72:zad Tryz.prog pur Tryz.f72=some g72:=by kernel_rfl
def c76:zad Tryz.prog pur Tryz.f76=some g76:=by kernel_rfl
def c80:zad Tryz.prog pur Tryz.f80=some g80:=by kernel_rfl
def c84:zad Tryz.prog pur Tryz.f84=some g84:=by kernel_rfl
def c89:zad Tryz.prog pur Tryz.f89=some g89:=by kernel_rfl
def c93:zad Tryz.prog pur Tryz.f93=some g93:=by kernel_rfl
def c98:zad Tryz.prog pur Tryz.f98=some g98:=by kernel_rfl
def c107:zad Tryz.prog pur Tryz.f107=some g107:=by kernel_rfl
def c111:zad Tryz.prog pur Tryz.f111=some g111:=by kernel_rfl
def c115:zad Tryz.prog pur Tryz.f115=some g115:=by kernel_rfl
def c124:zad Tryz.prog pur Tryz.f124=some g124:=by kernel_rfl
def c131:zad Tryz.prog pur Tryz.f131=some g131:=by kernel_rfl
def c135:zad Tryz.prog pur Tryz.f135=some g135:=by kernel_rfl
def c139:zad Tryz.prog pur Tryz.f139=some zDh:=by kernel_rfl
def c144:zad Tryz.prog pur Tryz.f144=some g144:=by kernel_rfl
def c148:zad Tryz.prog pur Tryz.f148=some g148:=by kernel_rfl
def c152:zad Tryz.prog pur Tryz.f152=some g152:=by kernel_rfl
def c157:zad Tryz.prog pur Tryz.f157=some g157:=by kernel_rfl
def c163:zad Tryz.prog pur Tryz.f163=some g163:=by kernel_rfl
def c167:zad Tryz.prog pur Tryz.f167=some g167:=by kernel_rfl
def c172:zad Tryz.prog pur Tryz.f172=some g172:=by kernel_rfl
def c176:zad Tryz.prog pur Tryz.f176=some g176:=by kernel_rfl
def c181:zad Tryz.prog pur Tryz.f181=some g181:=by kernel_rfl
def c185:zad Tryz.prog pur Tryz.f185=some g185:=by kernel_rfl
def c198:zad Tryz.prog pur Tryz.f198=some g198:=by kernel_rfl
def c211:zad Tryz.prog pur Tryz.f211=some g211:=by kernel_rfl
def c225:zad Tryz.prog pur Tryz.f225=some g225:=by kernel_rfl
def c230:zad Tryz.prog pur Tryz.f230=some g230:=by kernel_rfl
def c234:zad Tryz.prog pur Tryz.f234=some g234:=by kernel_rfl
def c238:zad Tryz.prog pur Tryz.f238=some g238:=by kernel_rfl
def c242:zad Tryz.prog pur Tryz.f242=some g242:=by kernel_rfl
def c248:zad Tryz.prog pur Tryz.f248=some g248:=by kernel_rfl
def c253:zad Tryz.prog pur Tryz.f253=some g253:=by kernel_rfl
def c258:zad Tryz.prog pur Tryz.f258=some g258:=by kernel_rfl
def c285:zad Tryz.prog pur Tryz.f285=some g285:=by kernel_rfl
def c292:zad Tryz.prog pur Tryz.f292=some g292:=by kernel_rfl
def c377:zad Tryz.prog pur Tryz.f377=some g377:=by kernel_rfl
end Go.Proofs.YtlmnmaginhebdaaGreatDoor
