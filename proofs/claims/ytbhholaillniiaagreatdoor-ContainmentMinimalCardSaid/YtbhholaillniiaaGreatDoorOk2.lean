/- The resolved code is what the compiler makes of the program. Written by program. -/
import Derived.Test.YtbhholaillniiaaGreatDoorProg
import Derived.Test.YtbhholaillniiaaGreatDoorPr
import Derived.Test.YtbhholaillniiaaGreatDoorOk0
import Derived.KernelRfl
set_option linter.all false
namespace Go.Proofs.YtbhholaillniiaaGreatDoor
open Go.Vse
open Go (BinOp IntKind UnOp)
set_option maxRecDepth 100000
def c5:=cK Go.Proofs.Tryz.f5 g5
def c9:=cK Go.Proofs.Tryz.f9 g9
def c15:=cK Go.Proofs.Tryz.f15 g15
def c21:=cK Go.Proofs.Tryz.f21 g21
def c26:=cK Go.Proofs.Tryz.f26 g26
def c30:=cK Go.Proofs.Tryz.f30 g30
def c35:=cK Go.Proofs.Tryz.f35 g35
def c40:=cK Go.Proofs.Tryz.f40 g40
def c46:=cK Go.Proofs.Tryz.f46 g46
def c56:=cK Go.Proofs.Tryz.f56 g56
def c61:=cK Go.Proofs.Tryz.f61 g61
def c66:=cK Go.Proofs.Tryz.f66 g66
def c70:=cK Go.Proofs.Tryz.f70 g70
def c77:=cK Go.Proofs.Tryz.f77 g77
def c84:=cK Go.Proofs.Tryz.f84 g84
def c88:=cK Go.Proofs.Tryz.f88 g88
def c97:=cK Go.Proofs.Tryz.f97 g97
def c103:=cK Go.Proofs.Tryz.f103 g103
def c109:=cK Go.Proofs.Tryz.f109 g109
def c113:=cK Go.Proofs.Tryz.f113 zzO
def c117:=cK Go.Proofs.Tryz.f117 zzS
def c121:=cK Go.Proofs.Tryz.f121 zkj
def c133:=cK Go.Proofs.Tryz.f133 zz0
def c145:=cK Go.Proofs.Tryz.f145 g145
def c149:=cK Go.Proofs.Tryz.f149 g149
def c153:=cK Go.Proofs.Tryz.f153 g153
def c158:=cK Go.Proofs.Tryz.f158 g158
def c164:=cK Go.Proofs.Tryz.f164 g164
def c170:=cK Go.Proofs.Tryz.f170 g170
def c179:=cK Go.Proofs.Tryz.f179 g179
def c184:=cK Go.Proofs.Tryz.f184 zz3
def c188:=cK Go.Proofs.Tryz.f188 zz8
def c198:=cK Go.Proofs.Tryz.f198 zAc
def c210:=cK Go.Proofs.Tryz.f210 g210
def c217:=cK Go.Proofs.Tryz.f217 g217
def c227:=cK Go.Proofs.Tryz.f227 g227
def c231:=cK Go.Proofs.Tryz.f231 zAh
def c241:=cK Go.Proofs.Tryz.f241 g241
def c255:=cK Go.Proofs.Tryz.f255 g255
def c259:=cK Go.Proofs.Tryz.f259 zAm
end Go.Proofs.YtbhholaillniiaaGreatDoor
