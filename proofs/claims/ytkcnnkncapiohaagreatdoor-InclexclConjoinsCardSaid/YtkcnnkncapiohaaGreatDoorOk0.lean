/- The resolved code is what the compiler makes of the program. Written by program. -/
import Derived.Test.YtkcnnkncapiohaaGreatDoorProg
import Derived.Test.YtkcnnkncapiohaaGreatDoorPr
import Derived.KernelRfl
set_option linter.all false
namespace Go.Proofs.YtkcnnkncapiohaaGreatDoor
open Go.Vse
open Go (BinOp IntKind UnOp)
set_option maxRecDepth 100000
def c3:zab Tryz.prog pur Tryz.f3=some g3:=by kernel_rfl
def c7:zab Tryz.prog pur Tryz.f7=some g7:=by kernel_rfl
def c11:zab Tryz.prog pur Tryz.f11=some g11:=by kernel_rfl
def c15:zab Tryz.prog pur Tryz.f15=some g15:=by kernel_rfl
def c19:zab Tryz.prog pur Tryz.f19=some g19:=by kernel_rfl
def c23:zab Tryz.prog pur Tryz.f23=some g23:=by kernel_rfl
def c27:zab Tryz.prog pur Tryz.f27=some g27:=by kernel_rfl
def c31:Go.Vse.zab Go.Proofs.Tryz.prog (fun i=>pur i&& !(Nat.beq i 72)) Go.Proofs.Tryz.f31=some g31:=by kernel_rfl
def c35:zab Tryz.prog pur Tryz.f35=some g35:=by kernel_rfl
def c39:zab Tryz.prog pur Tryz.f39=some g39:=by kernel_rfl
def c43:zab Tryz.prog pur Tryz.f43=some g43:=by kernel_rfl
def c47:zab Tryz.prog pur Tryz.f47=some g47:=by kernel_rfl
def c51:zab Tryz.prog pur Tryz.f51=some g51:=by kernel_rfl
def c55:zab Tryz.prog pur Tryz.f55=some g55:=by kernel_rfl
def c59:zab Tryz.prog pur Tryz.f59=some g59:=by kernel_rfl
def c63:zab Tryz.prog pur Tryz.f63=some g63:=by kernel_rfl
def c67:zab Tryz.prog pur Tryz.f67=some g67:=by kernel_rfl
def c71:zab Tryz.prog pur Tryz.f71=some g71:=by kernel_rfl
def c75:zab Tryz.prog pur Tryz.f75=some g75:=by kernel_rfl
def c79:zab Tryz.prog pur Tryz.f79=some g79:=by kernel_rfl
def c83:zab Tryz.prog pur Tryz.f83=some g83:=by kernel_rfl
def c91:zab Tryz.prog pur Tryz.f91=some g91:=by kernel_rfl
def c95:zab Tryz.prog pur Tryz.f95=some g95:=by kernel_rfl
def c99:zab Tryz.prog pur Tryz.f99=some g99:=by kernel_rfl
def c103:zab Tryz.prog pur Tryz.f103=some g103:=by kernel_rfl
def c107:zab Tryz.prog pur Tryz.f107=some g107:=by kernel_rfl
def c111:zab Tryz.prog pur Tryz.f111=some g111:=by kernel_rfl
def c115:zab Tryz.prog pur Tryz.f115=some g115:=by kernel_rfl
def c119:zab Tryz.prog pur Tryz.f119=some zBq:=by kernel_rfl
def c127:zab Tryz.prog pur Tryz.f127=some g127:=by kernel_rfl
def c139:zab Tryz.prog pur Tryz.f139=some g139:=by kernel_rfl
def c143:zab Tryz.prog pur Tryz.f143=some g143:=by kernel_rfl
def c155:zab Tryz.prog pur Tryz.f155=some g155:=by kernel_rfl
def c159:zab Tryz.prog pur Tryz.f159=some g159:=by kernel_rfl
def c167:zab Tryz.prog pur Tryz.f167=some g167:=by kernel_rfl
def c171:zab Tryz.prog pur Tryz.f171=some zBz:=by kernel_rfl
def c175:zab Tryz.prog pur Tryz.f175=some g175:=by kernel_rfl
def c183:zab Tryz.prog pur Tryz.f183=some g183:=by kernel_rfl
def c187:zab Tryz.prog pur Tryz.f187=some g187:=by kernel_rfl
def c195:zab Tryz.prog pur Tryz.f195=some g195:=by kernel_rfl
def c199:zab Tryz.prog pur Tryz.f199=some g199:=by kernel_rfl
def c203:zab Tryz.prog pur Tryz.f203=some g203:=by kernel_rfl
def c207:zab Tryz.prog pur Tryz.f207=some g207:=by kernel_rfl
def c211:zab Tryz.prog pur Tryz.f211=some g211:=by kernel_rfl
def c215:zab Tryz.prog pur Tryz.f215=some g215:=by kernel_rfl
def c219:zab Tryz.prog pur Tryz.f219=some g219:=by kernel_rfl
def c223:zab Tryz.prog pur Tryz.f223=some g223:=by kernel_rfl
def c227:zab Tryz.prog pur Tryz.f227=some g227:=by kernel_rfl
def c231:zab Tryz.prog pur Tryz.f231=some g231:=by kernel_rfl
def c235:zab Tryz.prog pur Tryz.f235=some g235:=by kernel_rfl
def c239:zab Tryz.prog pur Tryz.f239=some g239:=by kernel_rfl
def c243:zab Tryz.prog pur Tryz.f243=some g243:=by kernel_rfl
def c247:zab Tryz.prog pur Tryz.f247=some g247:=by kernel_rfl
def c251:zab Tryz.prog pur Tryz.f251=some g251:=by kernel_rfl
def c255:zab Tryz.prog pur Tryz.f255=some g255:=by kernel_rfl
def c259:zab Tryz.prog pur Tryz.f259=some g259:=by kernel_rfl
def c263:zab Tryz.prog pur Tryz.f263=some g263:=by kernel_rfl
def c267:zab Tryz.prog pur Tryz.f267=some g267:=by kernel_rfl
def c272:zab Tryz.prog pur Tryz.f272=some g272:=by kernel_rfl
def c276:zab Tryz.prog pur Tryz.f276=some g276:=by kernel_rfl
def c281:zab Tryz.prog pur Tryz.f281=some g281:=by kernel_rfl
end Go.Proofs.YtkcnnkncapiohaaGreatDoor
