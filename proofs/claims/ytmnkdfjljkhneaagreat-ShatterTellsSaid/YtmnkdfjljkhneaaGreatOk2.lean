/- The resolved code is what the compiler makes of the program. Written by program. -/
import Derived.Test.YtmnkdfjljkhneaaGreatProg
import Derived.Test.YtmnkdfjljkhneaaGreatPr
import Derived.KernelRfl
set_option linter.all false
namespace Go.Proofs.YtmnkdfjljkhneaaGreat
open Go.Vse
open Go (BinOp IntKind UnOp)
set_option maxRecDepth 100000
def c5:zah Tryz.prog pur Tryz.f5=some g5:=by kernel_rfl
def c9:zah Tryz.prog pur Tryz.f9=some g9:=by kernel_rfl
def c13:zah Tryz.prog pur Tryz.f13=some g13:=by kernel_rfl
def c17:zah Tryz.prog pur Tryz.f17=some g17:=by kernel_rfl
def c21:zah Tryz.prog pur Tryz.f21=some g21:=by kernel_rfl
def c25:Go.Vse.zah Go.Proofs.Tryz.prog (fun i=>pur i&& !(Nat.beq i 33)) Go.Proofs.Tryz.f25=some g25:=by kernel_rfl
def c29:zah Tryz.prog pur Tryz.f29=some g29:=by kernel_rfl
def c33:Go.Vse.zah Go.Proofs.Tryz.prog (fun i=>pur i&& !(Nat.beq i 65)) Go.Proofs.Tryz.f33=some g33:=by kernel_rfl
def c37:zah Tryz.prog pur Tryz.f37=some g37:=by kernel_rfl
def c41:zah Tryz.prog pur Tryz.f41=some g41:=by kernel_rfl
def c45:zah Tryz.prog pur Tryz.f45=some g45:=by kernel_rfl
def c49:zah Tryz.prog pur Tryz.f49=some g49:=by kernel_rfl
def c53:zah Tryz.prog pur Tryz.f53=some g53:=by kernel_rfl
def c57:zah Tryz.prog pur Tryz.f57=some g57:=by kernel_rfl
def c61:zah Tryz.prog pur Tryz.f61=some g61:=by kernel_rfl
def c65:zah Tryz.prog pur Tryz.f65=some g65:=by kernel_rfl
def c69:zah Tryz.prog pur Tryz.f69=some g69:=by kernel_rfl
def c73:zah Tryz.prog pur Tryz.f73=some g73:=by kernel_rfl
def c77:zah Tryz.prog pur Tryz.f77=some g77:=by kernel_rfl
def c81:zah Tryz.prog pur Tryz.f81=some g81:=by kernel_rfl
def c85:zah Tryz.prog pur Tryz.f85=some g85:=by kernel_rfl
def c89:zah Tryz.prog pur Tryz.f89=some g89:=by kernel_rfl
def c93:zah Tryz.prog pur Tryz.f93=some g93:=by kernel_rfl
def c97:zah Tryz.prog pur Tryz.f97=some g97:=by kernel_rfl
def c101:zah Tryz.prog pur Tryz.f101=some g101:=by kernel_rfl
def c105:zah Tryz.prog pur Tryz.f105=some g105:=by kernel_rfl
def c114:zah Tryz.prog pur Tryz.f114=some zyt:=by kernel_rfl
def c118:zah Tryz.prog pur Tryz.f118=some zs9:=by kernel_rfl
def c131:zah Tryz.prog pur Tryz.f131=some zyB:=by kernel_rfl
def c135:zah Tryz.prog pur Tryz.f135=some g135:=by kernel_rfl
def c139:zah Tryz.prog pur Tryz.f139=some g139:=by kernel_rfl
def c143:zah Tryz.prog pur Tryz.f143=some zyH:=by kernel_rfl
def c152:zah Tryz.prog pur Tryz.f152=some g152:=by kernel_rfl
def c160:zah Tryz.prog pur Tryz.f160=some g160:=by kernel_rfl
def c164:zah Tryz.prog pur Tryz.f164=some g164:=by kernel_rfl
def c168:zah Tryz.prog pur Tryz.f168=some g168:=by kernel_rfl
def c172:zah Tryz.prog pur Tryz.f172=some g172:=by kernel_rfl
def c176:zah Tryz.prog pur Tryz.f176=some g176:=by kernel_rfl
def c180:zah Tryz.prog pur Tryz.f180=some g180:=by kernel_rfl
end Go.Proofs.YtmnkdfjljkhneaaGreat
