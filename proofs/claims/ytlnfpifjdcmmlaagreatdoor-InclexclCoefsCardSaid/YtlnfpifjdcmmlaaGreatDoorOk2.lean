/- The resolved code is what the compiler makes of the program. Written by program. -/
import Derived.Test.YtlnfpifjdcmmlaaGreatDoorProg
import Derived.Test.YtlnfpifjdcmmlaaGreatDoorPr
import Derived.KernelRfl
set_option linter.all false
namespace Go.Proofs.YtlnfpifjdcmmlaaGreatDoor
open Go.Vse
open Go (BinOp IntKind UnOp)
set_option maxRecDepth 100000
def c5:zae Tryz.prog pur Tryz.f5=some g5:=by kernel_rfl
def c9:zae Tryz.prog pur Tryz.f9=some g9:=by kernel_rfl
def c13:zae Tryz.prog pur Tryz.f13=some g13:=by kernel_rfl
def c17:zae Tryz.prog pur Tryz.f17=some g17:=by kernel_rfl
def c21:zae Tryz.prog pur Tryz.f21=some g21:=by kernel_rfl
def c25:Go.Vse.zae Go.Proofs.Tryz.prog (fun i=>pur i&& !(Nat.beq i 42)) Go.Proofs.Tryz.f25=some g25:=by kernel_rfl
def c29:zae Tryz.prog pur Tryz.f29=some g29:=by kernel_rfl
def c33:zae Tryz.prog pur Tryz.f33=some g33:=by kernel_rfl
def c37:zae Tryz.prog pur Tryz.f37=some g37:=by kernel_rfl
def c41:zae Tryz.prog pur Tryz.f41=some g41:=by kernel_rfl
def c45:zae Tryz.prog pur Tryz.f45=some g45:=by kernel_rfl
def c49:zae Tryz.prog pur Tryz.f49=some g49:=by kernel_rfl
def c53:zae Tryz.prog pur Tryz.f53=some g53:=by kernel_rfl
def c57:zae Tryz.prog pur Tryz.f57=some g57:=by kernel_rfl
def c61:zae Tryz.prog pur Tryz.f61=some g61:=by kernel_rfl
def c65:zae Tryz.prog pur Tryz.f65=some g65:=by kernel_rfl
def c69:zae Tryz.prog pur Tryz.f69=some g69:=by kernel_rfl
def c73:zae Tryz.prog pur Tryz.f73=some g73:=by kernel_rfl
def c77:zae Tryz.prog pur Tryz.f77=some g77:=by kernel_rfl
def c81:zae Tryz.prog pur Tryz.f81=some g81:=by kernel_rfl
def c85:zae Tryz.prog pur Tryz.f85=some g85:=by kernel_rfl
def c89:zae Tryz.prog pur Tryz.f89=some g89:=by kernel_rfl
def c93:zae Tryz.prog pur Tryz.f93=some g93:=by kernel_rfl
def c97:zae Tryz.prog pur Tryz.f97=some g97:=by kernel_rfl
def c101:zae Tryz.prog pur Tryz.f101=some g101:=by kernel_rfl
def c105:zae Tryz.prog pur Tryz.f105=some g105:=by kernel_rfl
def c109:zae Tryz.prog pur Tryz.f109=some zwv:=by kernel_rfl
def c113:zae Tryz.prog pur Tryz.f113=some zwy:=by kernel_rfl
def c117:zae Tryz.prog pur Tryz.f117=some zwC:=by kernel_rfl
def c122:zae Tryz.prog pur Tryz.f122=some g122:=by kernel_rfl
def c126:zae Tryz.prog pur Tryz.f126=some g126:=by kernel_rfl
def c130:zae Tryz.prog pur Tryz.f130=some zwL:=by kernel_rfl
def c134:zae Tryz.prog pur Tryz.f134=some zwO:=by kernel_rfl
def c139:zae Tryz.prog pur Tryz.f139=some g139:=by kernel_rfl
def c143:zae Tryz.prog pur Tryz.f143=some g143:=by kernel_rfl
def c147:zae Tryz.prog pur Tryz.f147=some g147:=by kernel_rfl
def c151:zae Tryz.prog pur Tryz.f151=some g151:=by kernel_rfl
def c155:zae Tryz.prog pur Tryz.f155=some g155:=by kernel_rfl
end Go.Proofs.YtlnfpifjdcmmlaaGreatDoor
