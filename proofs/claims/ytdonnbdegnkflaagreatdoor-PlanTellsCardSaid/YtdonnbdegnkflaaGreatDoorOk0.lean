/- The resolved code is what the compiler makes of the program. Written by program. -/
import Derived.Test.YtdonnbdegnkflaaGreatDoorProg
import Derived.Test.YtdonnbdegnkflaaGreatDoorPr
import Derived.KernelRfl
set_option linter.all false
namespace Go.Proofs.YtdonnbdegnkflaaGreatDoor
open Go.Vse
open Go (BinOp IntKind UnOp)
set_option maxRecDepth 100000
def c3:Go.Vse.zad Go.Proofs.Tryz.prog (fun i=>pur i&& !(Nat.beq i 7)) Go.Proofs.Tryz.f3=some g3:=by kernel_rfl
def c7:zad Tryz.prog pur Tryz.f7=some g7:=by kernel_rfl
def c11:zad Tryz.prog pur Tryz.f11=some g11:=by kernel_rfl
def c15:zad Tryz.prog pur Tryz.f15=some g15:=by kernel_rfl
def c19:zad Tryz.prog pur Tryz.f19=some g19:=by kernel_rfl
def c23:zad Tryz.prog pur Tryz.f23=some g23:=by kernel_rfl
def c27:zad Tryz.prog pur Tryz.f27=some g27:=by kernel_rfl
def c31:zad Tryz.prog pur Tryz.f31=some g31:=by kernel_rfl
def c35:zad Tryz.prog pur Tryz.f35=some g35:=by kernel_rfl
def c39:zad Tryz.prog pur Tryz.f39=some g39:=by kernel_rfl
def c43:zad Tryz.prog pur Tryz.f43=some g43:=by kernel_rfl
def c47:zad Tryz.prog pur Tryz.f47=some g47:=by kernel_rfl
def c51:zad Tryz.prog pur Tryz.f51=some g51:=by kernel_rfl
def c55:zad Tryz.prog pur Tryz.f55=some g55:=by kernel_rfl
def c59:zad Tryz.prog pur Tryz.f59=some g59:=by kernel_rfl
def c64:zad Tryz.prog pur Tryz.f64=some g64:=by kernel_rfl
def c68:zad Tryz.prog pur Tryz.f68=some g68:=by kernel_rfl
def c72:zad Tryz.prog pur Tryz.f72=some g72:=by kernel_rfl
def c76:zad Tryz.prog pur Tryz.f76=some g76:=by kernel_rfl
def c80:zad Tryz.prog pur Tryz.f80=some g80:=by kernel_rfl
def c84:zad Tryz.prog pur Tryz.f84=some g84:=by kernel_rfl
def c88:zad Tryz.prog pur Tryz.f88=some g88:=by kernel_rfl
def c92:zad Tryz.prog pur Tryz.f92=some g92:=by kernel_rfl
def c103:zad Tryz.prog pur Tryz.f103=some g103:=by kernel_rfl
def c108:zad Tryz.prog pur Tryz.f108=some g108:=by kernel_rfl
def c113:zad Tryz.prog pur Tryz.f113=some g113:=by kernel_rfl
def c117:zad Tryz.prog pur Tryz.f117=some g117:=by kernel_rfl
def c122:zad Tryz.prog pur Tryz.f122=some g122:=by kernel_rfl
def c131:zad Tryz.prog pur Tryz.f131=some g131:=by kernel_rfl
def c135:zad Tryz.prog pur Tryz.f135=some g135:=by kernel_rfl
def c139:zad Tryz.prog pur Tryz.f139=some g139:=by kernel_rfl
def c148:zad Tryz.prog pur Tryz.f148=some g148:=by kernel_rfl
def c155:zad Tryz.prog pur Tryz.f155=some g155:=by kernel_rfl
def c159:zad Tryz.prog pur Tryz.f159=some g159:=by kernel_rfl
def c163:zad Tryz.prog pur Tryz.f163=some zFS:=by kernel_rfl
def c173:zad Tryz.prog pur Tryz.f173=some g173:=by kernel_rfl
def c177:zad Tryz.prog pur Tryz.f177=some g177:=by kernel_rfl
def c185:zad Tryz.prog pur Tryz.f185=some g185:=by kernel_rfl
def c189:zad Tryz.prog pur Tryz.f189=some g189:=by kernel_rfl
def c193:zad Tryz.prog pur Tryz.f193=some g193:=by kernel_rfl
def c198:zad Tryz.prog pur Tryz.f198=some g198:=by kernel_rfl
def c203:zad Tryz.prog pur Tryz.f203=some g203:=by kernel_rfl
def c207:zad Tryz.prog pur Tryz.f207=some g207:=by kernel_rfl
def c217:zad Tryz.prog pur Tryz.f217=some g217:=by kernel_rfl
def c224:zad Tryz.prog pur Tryz.f224=some g224:=by kernel_rfl
def c247:zad Tryz.prog pur Tryz.f247=some g247:=by kernel_rfl
def c252:zad Tryz.prog pur Tryz.f252=some g252:=by kernel_rfl
def c256:zad Tryz.prog pur Tryz.f256=some g256:=by kernel_rfl
def c260:zad Tryz.prog pur Tryz.f260=some g260:=by kernel_rfl
def c266:zad Tryz.prog pur Tryz.f266=some g266:=by kernel_rfl
def c272:zad Tryz.prog pur Tryz.f272=some g272:=by kernel_rfl
def c294:zad Tryz.prog pur Tryz.f294=some g294:=by kernel_rfl
def c307:zad Tryz.prog pur Tryz.f307=some g307:=by kernel_rfl
end Go.Proofs.YtdonnbdegnkflaaGreatDoor
