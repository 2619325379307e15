/- The resolved code is what the compiler makes of the program. Written by program. -/
import Derived.Test.YtimgcabgophnfaaGreatProg
import Derived.Test.YtimgcabgophnfaaGreatPr
import Derived.KernelRfl
set_option linter.all false
namespace Go.Proofs.YtimgcabgophnfaaGreat
open Go.Vse
open Go (BinOp IntKind UnOp)
set_option maxRecDepth 100000
theorem c7:zah Tryz.prog pur Tryz.f7=some g7:=by kernel_rfl
theorem c11:zah Tryz.prog pur Tryz.f11=some g11:=by kernel_rfl
theorem c15:zah Tryz.prog pur Tryz.f15=some g15:=by kernel_rfl
theorem c19:zah Tryz.prog pur Tryz.f19=some g19:=by kernel_rfl
theorem c23:zah Tryz.prog pur Tryz.f23=some g23:=by kernel_rfl
theorem c27:zah Tryz.prog pur Tryz.f27=some g27:=by kernel_rfl
theorem c31:zah Tryz.prog pur Tryz.f31=some g31:=by kernel_rfl
theorem c35:zah Tryz.prog pur Tryz.f35=some g35:=by kernel_rfl
theorem c39:zah Tryz.prog pur Tryz.f39=some g39:=by kernel_rfl
theorem c43:zah Tryz.prog pur Tryz.f43=some g43:=by kernel_rfl
theorem c47:zah Tryz.prog pur Tryz.f47=some g47:=by kernel_rfl
theorem c51:zah Tryz.prog pur Tryz.f51=some g51:=by kernel_rfl
theorem c55:zah Tryz.prog pur Tryz.f55=some g55:=by kernel_rfl
theorem c59:zah Tryz.prog pur Tryz.f59=some g59:=by kernel_rfl
theorem c63:zah Tryz.prog pur Tryz.f63=some g63:=by kernel_rfl
theorem c67:zah Tryz.prog pur Tryz.f67=some g67:=by kernel_rfl
theorem c71:zah Tryz.prog pur Tryz.f71=some g71:=by kernel_rfl
theorem c75:zah Tryz.prog pur Tryz.f75=some g75:=by kernel_rfl
theorem c79:zah Tryz.prog pur Tryz.f79=some g79:=by kernel_rfl
theorem c83:zah Tryz.prog pur Tryz.f83=some g83:=by kernel_rfl
theorem c87:zah Tryz.prog pur Tryz.f87=some g87:=by kernel_rfl
theorem c91:zah Tryz.prog pur Tryz.f91=some g91:=by kernel_rfl
theorem c95:zah Tryz.prog pur Tryz.f95=some g95:=by kernel_rfl
theorem c99:zah Tryz.prog pur Tryz.f99=some g99:=by kernel_rfl
theorem c103:zah Tryz.prog pur Tryz.f103=some zzP:=by kernel_rfl
theorem c111:zah Tryz.prog pur Tryz.f111=some zzS:=by kernel_rfl
theorem c115:zah Tryz.prog pur Tryz.f115=some zuy:=by kernel_rfl
theorem c127:zah Tryz.prog pur Tryz.f127=some zAd:=by kernel_rfl
theorem c132:zah Tryz.prog pur Tryz.f132=some g132:=by kernel_rfl
theorem c136:zah Tryz.prog pur Tryz.f136=some g136:=by kernel_rfl
theorem c140:zah Tryz.prog pur Tryz.f140=some zAm:=by kernel_rfl
theorem c144:zah Tryz.prog pur Tryz.f144=some zAp:=by kernel_rfl
theorem c149:zah Tryz.prog pur Tryz.f149=some g149:=by kernel_rfl
theorem c153:zah Tryz.prog pur Tryz.f153=some g153:=by kernel_rfl
theorem c157:zah Tryz.prog pur Tryz.f157=some g157:=by kernel_rfl
theorem c161:zah Tryz.prog pur Tryz.f161=some g161:=by kernel_rfl
theorem c165:zah Tryz.prog pur Tryz.f165=some g165:=by kernel_rfl
theorem c169:zah Tryz.prog pur Tryz.f169=some g169:=by kernel_rfl
theorem c173:zah Tryz.prog pur Tryz.f173=some g173:=by kernel_rfl
theorem c177:zah Tryz.prog pur Tryz.f177=some g177:=by kernel_rfl
end Go.Proofs.YtimgcabgophnfaaGreat
