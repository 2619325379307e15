/- The resolved code is what the compiler makes of the program. Written by program. -/
import Derived.Test.YtflgmemhalhdbaaGreatDoorProg
import Derived.Test.YtflgmemhalhdbaaGreatDoorPr
import Derived.KernelRfl
set_option linter.all false
namespace Go.Proofs.YtflgmemhalhdbaaGreatDoor
open Go.Vse
open Go (BinOp IntKind UnOp)
set_option maxRecDepth 100000
def c3:zae Tryz.prog pur Tryz.f3=some g3:=by kernel_rfl
def c7:zae Tryz.prog pur Tryz.f7=some g7:=by kernel_rfl
def c11:zae Tryz.prog pur Tryz.f11=some g11:=by kernel_rfl
def c15:zae Tryz.prog pur Tryz.f15=some g15:=by kernel_rfl
def c19:zae Tryz.prog pur Tryz.f19=some g19:=by kernel_rfl
def c23:zae Tryz.prog pur Tryz.f23=some g23:=by kernel_rfl
def c27:zae Tryz.prog pur Tryz.f27=some g27:=by kernel_rfl
def c31:zae Tryz.prog pur Tryz.f31=some g31:=by kernel_rfl
def c35:zae Tryz.prog pur Tryz.f35=some g35:=by kernel_rfl
def c39:zae Tryz.prog pur Tryz.f39=some g39:=by kernel_rfl
def c43:zae Tryz.prog pur Tryz.f43=some g43:=by kernel_rfl
def c47:zae Tryz.prog pur Tryz.f47=some g47:=by kernel_rfl
def c51:zae Tryz.prog pur Tryz.f51=some g51:=by kernel_rfl
def c59:zae Tryz.prog pur Tryz.f59=some g59:=by kernel_rfl
def c63:zae Tryz.prog pur Tryz.f63=some g63:=by kernel_rfl
def c67:zae Tryz.prog pur Tryz.f67=some g67:=by kernel_rfl
def c71:zae Tryz.prog pur Tryz.f71=some g71:=by kernel_rfl
def c75:zae Tryz.prog pur Tryz.f75=some g75:=by kernel_rfl
def c79:zae Tryz.prog pur Tryz.f79=some g79:=by kernel_rfl
def c83:zae Tryz.prog pur Tryz.f83=some g83:=by kernel_rfl
def c87:zae Tryz.prog pur Tryz.f87=some g87:=by kernel_rfl
def c91:zae Tryz.prog pur Tryz.f91=some g91:=by kernel_rfl
def c95:zae Tryz.prog pur Tryz.f95=some g95:=by kernel_rfl
def c99:zae Tryz.prog pur Tryz.f99=some g99:=by kernel_rfl
def c103:zae Tryz.prog pur Tryz.f103=some zy3:=by kernel_rfl
def c107:zae Tryz.prog pur Tryz.f107=some zy6:=by kernel_rfl
def c111:zae Tryz.prog pur Tryz.f111=some zzb:=by kernel_rfl
def c115:zae Tryz.prog pur Tryz.f115=some g115:=by kernel_rfl
def c123:zae Tryz.prog pur Tryz.f123=some zzi:=by kernel_rfl
def c127:zae Tryz.prog pur Tryz.f127=some zzm:=by kernel_rfl
def c131:zae Tryz.prog pur Tryz.f131=some zzq:=by kernel_rfl
def c136:zae Tryz.prog pur Tryz.f136=some zzy:=by kernel_rfl
def c144:zae Tryz.prog pur Tryz.f144=some zzz:=by kernel_rfl
def c148:zae Tryz.prog pur Tryz.f148=some zzI:=by kernel_rfl
def c157:zae Tryz.prog pur Tryz.f157=some g157:=by kernel_rfl
def c161:zae Tryz.prog pur Tryz.f161=some g161:=by kernel_rfl
def c165:zae Tryz.prog pur Tryz.f165=some g165:=by kernel_rfl
end Go.Proofs.YtflgmemhalhdbaaGreatDoor
