/- The resolved code is what the compiler makes of the program. Written by program. -/
import Derived.Test.YtmnkdfjljkhneaaGreatProg
import Derived.Test.YtmnkdfjljkhneaaGreatPr
import Derived.KernelRfl
set_option linter.all false
namespace Go.Proofs.YtmnkdfjljkhneaaGreat
open Go.Vse
open Go (BinOp IntKind UnOp)
set_option maxRecDepth 100000
theorem c3:zae Tryz.prog pur Tryz.f3=some g3:=by kernel_rfl
theorem c7:zae Tryz.prog pur Tryz.f7=some g7:=by kernel_rfl
theorem c11:zae Tryz.prog pur Tryz.f11=some g11:=by kernel_rfl
theorem c19:Go.Vse.zae Go.Proofs.Tryz.prog (fun i=>pur i&& !(Nat.beq i 26)) Go.Proofs.Tryz.f19=some g19:=by kernel_rfl
theorem c23:zae Tryz.prog pur Tryz.f23=some g23:=by kernel_rfl
theorem c27:zae Tryz.prog pur Tryz.f27=some g27:=by kernel_rfl
theorem c31:zae Tryz.prog pur Tryz.f31=some g31:=by kernel_rfl
theorem c39:zae Tryz.prog pur Tryz.f39=some g39:=by kernel_rfl
theorem c43:zae Tryz.prog pur Tryz.f43=some g43:=by kernel_rfl
theorem c51:zae Tryz.prog pur Tryz.f51=some g51:=by kernel_rfl
theorem c55:zae Tryz.prog pur Tryz.f55=some g55:=by kernel_rfl
theorem c59:zae Tryz.prog pur Tryz.f59=some g59:=by kernel_rfl
theorem c67:zae Tryz.prog pur Tryz.f67=some g67:=by kernel_rfl
theorem c75:zae Tryz.prog pur Tryz.f75=some g75:=by kernel_rfl
theorem c79:zae Tryz.prog pur Tryz.f79=some g79:=by kernel_rfl
theorem c83:zae Tryz.prog pur Tryz.f83=some g83:=by kernel_rfl
theorem c87:zae Tryz.prog pur Tryz.f87=some g87:=by kernel_rfl
theorem c91:zae Tryz.prog pur Tryz.f91=some g91:=by kernel_rfl
theorem c95:zae Tryz.prog pur Tryz.f95=some g95:=by kernel_rfl
theorem c103:zae Tryz.prog pur Tryz.f103=some g103:=by kernel_rfl
theorem c112:zae Tryz.prog pur Tryz.f112=some zvI:=by kernel_rfl
theorem c116:zae Tryz.prog pur Tryz.f116=some zvM:=by kernel_rfl
theorem c120:zae Tryz.prog pur Tryz.f120=some g120:=by kernel_rfl
theorem c124:zae Tryz.prog pur Tryz.f124=some g124:=by kernel_rfl
theorem c128:zae Tryz.prog pur Tryz.f128=some g128:=by kernel_rfl
theorem c133:zae Tryz.prog pur Tryz.f133=some znW:=by kernel_rfl
theorem c137:zae Tryz.prog pur Tryz.f137=some g137:=by kernel_rfl
theorem c141:zae Tryz.prog pur Tryz.f141=some g141:=by kernel_rfl
theorem c145:zae Tryz.prog pur Tryz.f145=some zvS:=by kernel_rfl
theorem c149:zae Tryz.prog pur Tryz.f149=some g149:=by kernel_rfl
theorem c154:zae Tryz.prog pur Tryz.f154=some g154:=by kernel_rfl
theorem c158:zae Tryz.prog pur Tryz.f158=some g158:=by kernel_rfl
theorem c162:zae Tryz.prog pur Tryz.f162=some g162:=by kernel_rfl
theorem c166:zae Tryz.prog pur Tryz.f166=some g166:=by kernel_rfl
theorem c170:zae Tryz.prog pur Tryz.f170=some g170:=by kernel_rfl
theorem c174:zae Tryz.prog pur Tryz.f174=some g174:=by kernel_rfl
theorem c178:zae Tryz.prog pur Tryz.f178=some g178:=by kernel_rfl
theorem c182:zae Tryz.prog pur Tryz.f182=some g182:=by kernel_rfl
end Go.Proofs.YtmnkdfjljkhneaaGreat
