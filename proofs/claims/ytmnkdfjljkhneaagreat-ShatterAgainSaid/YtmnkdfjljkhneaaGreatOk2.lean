/- The resolved code is what the compiler makes of the program. Written by program. -/
import Derived.Test.YtmnkdfjljkhneaaGreatProg
import Derived.Test.YtmnkdfjljkhneaaGreatPr
import Derived.KernelRfl
set_option linter.all false
namespace Go.Proofs.YtmnkdfjljkhneaaGreat
open Go.Vse
open Go (BinOp IntKind UnOp)
set_option maxRecDepth 100000
theorem c5:zae Tryz.prog pur Tryz.f5=some g5:=by kernel_rfl
theorem c13:zae Tryz.prog pur Tryz.f13=some g13:=by kernel_rfl
theorem c21:zae Tryz.prog pur Tryz.f21=some g21:=by kernel_rfl
theorem c25:Go.Vse.zae Go.Proofs.Tryz.prog (fun i=>pur i&& !(Nat.beq i 33)) Go.Proofs.Tryz.f25=some g25:=by kernel_rfl
theorem c33:Go.Vse.zae Go.Proofs.Tryz.prog (fun i=>pur i&& !(Nat.beq i 65)) Go.Proofs.Tryz.f33=some g33:=by kernel_rfl
theorem c37:zae Tryz.prog pur Tryz.f37=some g37:=by kernel_rfl
theorem c45:zae Tryz.prog pur Tryz.f45=some g45:=by kernel_rfl
theorem c49:zae Tryz.prog pur Tryz.f49=some g49:=by kernel_rfl
theorem c57:zae Tryz.prog pur Tryz.f57=some g57:=by kernel_rfl
theorem c61:zae Tryz.prog pur Tryz.f61=some g61:=by kernel_rfl
theorem c65:zae Tryz.prog pur Tryz.f65=some g65:=by kernel_rfl
theorem c73:zae Tryz.prog pur Tryz.f73=some g73:=by kernel_rfl
theorem c81:zae Tryz.prog pur Tryz.f81=some g81:=by kernel_rfl
theorem c89:zae Tryz.prog pur Tryz.f89=some g89:=by kernel_rfl
theorem c93:zae Tryz.prog pur Tryz.f93=some g93:=by kernel_rfl
theorem c101:zae Tryz.prog pur Tryz.f101=some g101:=by kernel_rfl
theorem c105:zae Tryz.prog pur Tryz.f105=some g105:=by kernel_rfl
theorem c114:zae Tryz.prog pur Tryz.f114=some zvK:=by kernel_rfl
theorem c118:zae Tryz.prog pur Tryz.f118=some g118:=by kernel_rfl
theorem c122:zae Tryz.prog pur Tryz.f122=some g122:=by kernel_rfl
theorem c126:zae Tryz.prog pur Tryz.f126=some g126:=by kernel_rfl
theorem c131:zae Tryz.prog pur Tryz.f131=some zvO:=by kernel_rfl
theorem c135:zae Tryz.prog pur Tryz.f135=some g135:=by kernel_rfl
theorem c139:zae Tryz.prog pur Tryz.f139=some g139:=by kernel_rfl
theorem c147:zae Tryz.prog pur Tryz.f147=some g147:=by kernel_rfl
theorem c152:zae Tryz.prog pur Tryz.f152=some g152:=by kernel_rfl
theorem c160:zae Tryz.prog pur Tryz.f160=some g160:=by kernel_rfl
theorem c164:zae Tryz.prog pur Tryz.f164=some g164:=by kernel_rfl
theorem c168:zae Tryz.prog pur Tryz.f168=some g168:=by kernel_rfl
theorem c172:zae Tryz.prog pur Tryz.f172=some g172:=by kernel_rfl
theorem c176:zae Tryz.prog pur Tryz.f176=some g176:=by kernel_rfl
theorem c180:zae Tryz.prog pur Tryz.f180=some g180:=by kernel_rfl
end Go.Proofs.YtmnkdfjljkhneaaGreat
