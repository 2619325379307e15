/- The resolved code is what the compiler makes of the program. Written by program. -/
import Derived.Test.YtdonnbdegnkflaaGreatDoorProg
import Derived.Test.YtdonnbdegnkflaaGreatDoorPr
import Derived.KernelRfl
set_option linter.all false
namespace Go.Proofs.YtdonnbdegnkflaaGreatDoor
open Go.Vse
open Go (BinOp IntKind UnOp)
set_option maxRecDepth 100000
def c6:zad Tryz.prog pur Tryz.f6=some g6:=by kernel_rfl
def c10:zad Tryz.prog pur Tryz.f10=some g10:=by kernel_rfl
def c14:zad Tryz.prog pur Tryz.f14=some g14:=by kernel_rfl
def c18:zad Tryz.prog pur Tryz.f18=some g18:=by kernel_rfl
def c22:zad Tryz.prog pur Tryz.f22=some g22:=by kernel_rfl
def c26:zad Tryz.prog pur Tryz.f26=some g26:=by kernel_rfl
def c30:zad Tryz.prog pur Tryz.f30=some g30:=by kernel_rfl
def c34:zad Tryz.prog pur Tryz.f34=some g34:=by kernel_rfl
def c38:zad Tryz.prog pur Tryz.f38=some g38:=by kernel_rfl
def c42:zad Tryz.prog pur Tryz.f42=some g42:=by kernel_rfl
def c46:zad Tryz.prog pur Tryz.f46=some g46:=by kernel_rfl
def c50:zad Tryz.prog pur Tryz.f50=some g50:=by kernel_rfl
def c54:zad Tryz.prog pur Tryz.f54=some g54:=by kernel_rfl
def c58:zad Tryz.prog pur Tryz.f58=some g58:=by kernel_rfl
def c63:zad Tryz.prog pur Tryz.f63=some g63:=by kernel_rfl
def c67:zad Tryz.prog pur Tryz.f67=some g67:=by kernel_rfl
def c71:zad Tryz.prog pur Tryz.f71=some g71:=by kernel_rfl
def c75:zad Tryz.prog pur Tryz.f75=some g75:=by kernel_rfl
def c79:zad Tryz.prog pur Tryz.f79=some g79:=by kernel_rfl
def c83:zad Tryz.prog pur Tryz.f83=some g83:=by kernel_rfl
def c87:zad Tryz.prog pur Tryz.f87=some g87:=by kernel_rfl
def c91:zad Tryz.prog pur Tryz.f91=some g91:=by kernel_rfl
def c95:zad Tryz.prog pur Tryz.f95=some g95:=by kernel_rfl
def c106:zad Tryz.prog pur Tryz.f106=some zFO:=by kernel_rfl
def c112:zad Tryz.prog pur Tryz.f112=some g112:=by kernel_rfl
def c116:zad Tryz.prog pur Tryz.f116=some g116:=by kernel_rfl
def c121:zad Tryz.prog pur Tryz.f121=some g121:=by kernel_rfl
def c130:zad Tryz.prog pur Tryz.f130=some g130:=by kernel_rfl
def c134:zad Tryz.prog pur Tryz.f134=some g134:=by kernel_rfl
def c138:zad Tryz.prog pur Tryz.f138=some zFR:=by kernel_rfl
def c144:zad Tryz.prog pur Tryz.f144=some g144:=by kernel_rfl
def c154:zad Tryz.prog pur Tryz.f154=some g154:=by kernel_rfl
def c158:zad Tryz.prog pur Tryz.f158=some g158:=by kernel_rfl
def c162:zad Tryz.prog pur Tryz.f162=some g162:=by kernel_rfl
def c172:zad Tryz.prog pur Tryz.f172=some g172:=by kernel_rfl
def c176:zad Tryz.prog pur Tryz.f176=some g176:=by kernel_rfl
def c181:zad Tryz.prog pur Tryz.f181=some g181:=by kernel_rfl
def c188:zad Tryz.prog pur Tryz.f188=some g188:=by kernel_rfl
def c192:zad Tryz.prog pur Tryz.f192=some g192:=by kernel_rfl
def c197:zad Tryz.prog pur Tryz.f197=some g197:=by kernel_rfl
def c202:zad Tryz.prog pur Tryz.f202=some g202:=by kernel_rfl
def c206:zad Tryz.prog pur Tryz.f206=some zFU:=by kernel_rfl
def c211:zad Tryz.prog pur Tryz.f211=some g211:=by kernel_rfl
def c223:zad Tryz.prog pur Tryz.f223=some g223:=by kernel_rfl
def c237:zad Tryz.prog pur Tryz.f237=some g237:=by kernel_rfl
def c251:zad Tryz.prog pur Tryz.f251=some g251:=by kernel_rfl
def c255:zad Tryz.prog pur Tryz.f255=some g255:=by kernel_rfl
def c259:zad Tryz.prog pur Tryz.f259=some g259:=by kernel_rfl
def c265:zad Tryz.prog pur Tryz.f265=some g265:=by kernel_rfl
def c271:zad Tryz.prog pur Tryz.f271=some g271:=by kernel_rfl
def c293:zad Tryz.prog pur Tryz.f293=some g293:=by kernel_rfl
def c303:zad Tryz.prog pur Tryz.f303=some g303:=by kernel_rfl
end Go.Proofs.YtdonnbdegnkflaaGreatDoor
