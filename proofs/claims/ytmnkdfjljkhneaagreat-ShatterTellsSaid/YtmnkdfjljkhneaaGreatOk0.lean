/- The resolved code is what the compiler makes of the program. Written by program. -/
import Derived.Test.YtmnkdfjljkhneaaGreatProg
import Derived.Test.YtmnkdfjljkhneaaGreatPr
import Derived.KernelRfl
set_option linter.all false
namespace Go.Proofs.YtmnkdfjljkhneaaGreat
open Go.Vse
open Go (BinOp IntKind UnOp)
set_option maxRecDepth 100000
def c3:zah Tryz.prog pur Tryz.f3=some g3:=by kernel_rfl
def c7:zah Tryz.prog pur Tryz.f7=some g7:=by kernel_rfl
def c11:zah Tryz.prog pur Tryz.f11=some g11:=by kernel_rfl
def c15:zah Tryz.prog pur Tryz.f15=some g15:=by kernel_rfl
def c19:Go.Vse.zah Go.Proofs.Tryz.prog (fun i=>pur i&& !(Nat.beq i 26)) Go.Proofs.Tryz.f19=some g19:=by kernel_rfl
def c23:zah Tryz.prog pur Tryz.f23=some g23:=by kernel_rfl
def c27:zah Tryz.prog pur Tryz.f27=some g27:=by kernel_rfl
def c31:zah Tryz.prog pur Tryz.f31=some g31:=by kernel_rfl
def c35:zah Tryz.prog pur Tryz.f35=some g35:=by kernel_rfl
def c39:zah Tryz.prog pur Tryz.f39=some g39:=by kernel_rfl
def c43:zah Tryz.prog pur Tryz.f43=some g43:=by kernel_rfl
def c47:zah Tryz.prog pur Tryz.f47=some g47:=by kernel_rfl
def c51:zah Tryz.prog pur Tryz.f51=some g51:=by kernel_rfl
def c55:zah Tryz.prog pur Tryz.f55=some g55:=by kernel_rfl
def c59:zah Tryz.prog pur Tryz.f59=some g59:=by kernel_rfl
def c63:zah Tryz.prog pur Tryz.f63=some g63:=by kernel_rfl
def c67:zah Tryz.prog pur Tryz.f67=some g67:=by kernel_rfl
def c71:zah Tryz.prog pur Tryz.f71=some g71:=by kernel_rfl
def c75:zah Tryz.prog pur Tryz.f75=some g75:=by kernel_rfl
def c79:zah Tryz.prog pur Tryz.f79=some g79:=by kernel_rfl
def c83:zah Tryz.prog pur Tryz.f83=some g83:=by kernel_rfl
def c87:zah Tryz.prog pur Tryz.f87=some g87:=by kernel_rfl
def c91:zah Tryz.prog pur Tryz.f91=some g91:=by kernel_rfl
def c95:zah Tryz.prog pur Tryz.f95=some g95:=by kernel_rfl
def c99:zah Tryz.prog pur Tryz.f99=some g99:=by kernel_rfl
def c103:zah Tryz.prog pur Tryz.f103=some g103:=by kernel_rfl
def c112:zah Tryz.prog pur Tryz.f112=some zyq:=by kernel_rfl
def c116:zah Tryz.prog pur Tryz.f116=some zyx:=by kernel_rfl
def c128:zah Tryz.prog pur Tryz.f128=some g128:=by kernel_rfl
def c133:zah Tryz.prog pur Tryz.f133=some zpS:=by kernel_rfl
def c137:zah Tryz.prog pur Tryz.f137=some g137:=by kernel_rfl
def c141:zah Tryz.prog pur Tryz.f141=some g141:=by kernel_rfl
def c145:zah Tryz.prog pur Tryz.f145=some zyK:=by kernel_rfl
def c154:zah Tryz.prog pur Tryz.f154=some g154:=by kernel_rfl
def c162:zah Tryz.prog pur Tryz.f162=some g162:=by kernel_rfl
def c166:zah Tryz.prog pur Tryz.f166=some g166:=by kernel_rfl
def c170:zah Tryz.prog pur Tryz.f170=some g170:=by kernel_rfl
def c174:zah Tryz.prog pur Tryz.f174=some g174:=by kernel_rfl
def c178:zah Tryz.prog pur Tryz.f178=some g178:=by kernel_rfl
def c182:zah Tryz.prog pur Tryz.f182=some g182:=by kernel_rfl
end Go.Proofs.YtmnkdfjljkhneaaGreat
