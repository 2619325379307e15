/- The resolved code is what the compiler makes of the program. Written by program. -/
import Derived.Test.YtbhholaillniiaaGreatDoorProg
import Derived.Test.YtbhholaillniiaaGreatDoorPr
import Derived.Test.YtbhholaillniiaaGreatDoorOk0
import Derived.KernelRfl
set_option linter.all false
namespace Go.Proofs.YtbhholaillniiaaGreatDoor
open Go.Vse
open Go (BinOp IntKind UnOp)
set_option maxRecDepth 100000
def c6:=cK Go.Proofs.Tryz.f6 g6
def c16:=cK Go.Proofs.Tryz.f16 g16
def c22:=cK Go.Proofs.Tryz.f22 g22
def c27:=cK Go.Proofs.Tryz.f27 g27
def c32:=cK Go.Proofs.Tryz.f32 g32
def c36:=cK Go.Proofs.Tryz.f36 g36
def c41:=cK Go.Proofs.Tryz.f41 g41
def c51:=cK Go.Proofs.Tryz.f51 g51
def c57:=cK Go.Proofs.Tryz.f57 g57
def c62:=cK Go.Proofs.Tryz.f62 g62
def c67:=cK Go.Proofs.Tryz.f67 g67
def c71:=cK Go.Proofs.Tryz.f71 g71
def c78:=cK Go.Proofs.Tryz.f78 g78
def c85:=cK Go.Proofs.Tryz.f85 g85
def c94:=cK Go.Proofs.Tryz.f94 g94
def c98:=cK Go.Proofs.Tryz.f98 g98
def c104:=cK Go.Proofs.Tryz.f104 g104
def c110:=cK Go.Proofs.Tryz.f110 g110
def c114:=cK Go.Proofs.Tryz.f114 zzP
def c118:=cK Go.Proofs.Tryz.f118 zn3
def c130:=cK Go.Proofs.Tryz.f130 zzV
def c134:=cK Go.Proofs.Tryz.f134 zz2
def c146:=cK Go.Proofs.Tryz.f146 g146
def c150:=cK Go.Proofs.Tryz.f150 g150
def c154:=cK Go.Proofs.Tryz.f154 g154
def c159:=cK Go.Proofs.Tryz.f159 g159
def c165:=cK Go.Proofs.Tryz.f165 g165
def c171:=cK Go.Proofs.Tryz.f171 g171
def c181:=cK Go.Proofs.Tryz.f181 g181
def c185:=cK Go.Proofs.Tryz.f185 zz7
def c190:=cK Go.Proofs.Tryz.f190 zAa
def c207:=cK Go.Proofs.Tryz.f207 g207
def c214:=cK Go.Proofs.Tryz.f214 g214
def c222:=cK Go.Proofs.Tryz.f222 g222
def c228:=cK Go.Proofs.Tryz.f228 g228
def c232:=cK Go.Proofs.Tryz.f232 zAi
def c242:=cK Go.Proofs.Tryz.f242 g242
def c256:=cK Go.Proofs.Tryz.f256 g256
def c260:=cK Go.Proofs.Tryz.f260 zAn
end Go.Proofs.YtbhholaillniiaaGreatDoor
