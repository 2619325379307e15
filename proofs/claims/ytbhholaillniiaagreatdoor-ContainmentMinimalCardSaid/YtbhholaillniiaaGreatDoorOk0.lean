/- The resolved code is what the compiler makes of the program. Written by program. -/
import Derived.Test.YtbhholaillniiaaGreatDoorProg
import Derived.Test.YtbhholaillniiaaGreatDoorPr
import Derived.KernelRfl
set_option linter.all false
namespace Go.Proofs.YtbhholaillniiaaGreatDoor
open Go.Vse
open Go (BinOp IntKind UnOp)
set_option maxRecDepth 100000
def cK(F:Go.Func)(g:Go.Vse.Fn)(h:Go.Vse.zhk Go.Proofs.Tryz.prog pur F=some g:=by kernel_rfl):Go.Vse.zhk Go.Proofs.Tryz.prog pur F=some g:=h
def c3:=cK Go.Proofs.Tryz.f3 g3
def c7:=cK Go.Proofs.Tryz.f7 g7
def c12:=cK Go.Proofs.Tryz.f12 g12
def c17:=cK Go.Proofs.Tryz.f17 g17
def c23:=cK Go.Proofs.Tryz.f23 g23
def c28:=cK Go.Proofs.Tryz.f28 g28
def c33:=cK Go.Proofs.Tryz.f33 g33
def c37:=cK Go.Proofs.Tryz.f37 g37
def c42:=cK Go.Proofs.Tryz.f42 g42
def c54:=cK Go.Proofs.Tryz.f54 g54
def c59:=cK Go.Proofs.Tryz.f59 g59
def c64:=cK Go.Proofs.Tryz.f64 g64
def c68:=cK Go.Proofs.Tryz.f68 g68
def c72:=cK Go.Proofs.Tryz.f72 g72
def c82:=cK Go.Proofs.Tryz.f82 g82
def c86:=cK Go.Proofs.Tryz.f86 g86
def c95:=cK Go.Proofs.Tryz.f95 g95
def c100:=cK Go.Proofs.Tryz.f100 g100
def c105:=cK Go.Proofs.Tryz.f105 g105
def c111:=cK Go.Proofs.Tryz.f111 zzM
def c115:=cK Go.Proofs.Tryz.f115 zzQ
def c119:=cK Go.Proofs.Tryz.f119 zn4
def c131:=cK Go.Proofs.Tryz.f131 zzY
def c135:=cK Go.Proofs.Tryz.f135 g135
def c147:=cK Go.Proofs.Tryz.f147 g147
def c151:=cK Go.Proofs.Tryz.f151 g151
def c155:=cK Go.Proofs.Tryz.f155 g155
def c160:=cK Go.Proofs.Tryz.f160 g160
def c166:=cK Go.Proofs.Tryz.f166 g166
def c172:=cK Go.Proofs.Tryz.f172 g172
def c182:=cK Go.Proofs.Tryz.f182 g182
def c186:=cK Go.Proofs.Tryz.f186 zis
def c191:=cK Go.Proofs.Tryz.f191 zn5
def c208:=cK Go.Proofs.Tryz.f208 g208
def c215:=cK Go.Proofs.Tryz.f215 g215
def c225:=cK Go.Proofs.Tryz.f225 g225
def c229:=cK Go.Proofs.Tryz.f229 g229
def c233:=cK Go.Proofs.Tryz.f233 zAj
def c251:=cK Go.Proofs.Tryz.f251 g251
def c257:=cK Go.Proofs.Tryz.f257 g257
def c269:=cK Go.Proofs.Tryz.f269 g269
end Go.Proofs.YtbhholaillniiaaGreatDoor
