/- The resolved code is what the compiler makes of the program. Written by program. -/
import Derived.Test.YtdlcolcidohbkaaGreatDoorProg
import Derived.Test.YtdlcolcidohbkaaGreatDoorPr
import Derived.Test.YtdlcolcidohbkaaGreatDoorOk0
import Derived.KernelRfl
set_option linter.all false
namespace Go.Proofs.YtdlcolcidohbkaaGreatDoor
open Go.Vse
open Go (BinOp IntKind UnOp)
set_option maxRecDepth 100000
def c4:=cK Go.Proofs.Tryz.f4 g4
def c6:=cK Go.Proofs.Tryz.f6 g6
def c8:=cK Go.Proofs.Tryz.f8 g8
def c10:=cK Go.Proofs.Tryz.f10 g10
def c13:=cK Go.Proofs.Tryz.f13 g13
def c16:=cK Go.Proofs.Tryz.f16 g16
def c20:=cK Go.Proofs.Tryz.f20 g20
def c26:=cK Go.Proofs.Tryz.f26 g26
def c28:=cK Go.Proofs.Tryz.f28 g28
def c30:=cK Go.Proofs.Tryz.f30 g30
def c32:=cK Go.Proofs.Tryz.f32 g32
def c34:=cK Go.Proofs.Tryz.f34 g34
def c36:=cK Go.Proofs.Tryz.f36 g36
def c39:=cK Go.Proofs.Tryz.f39 g39
def c46:=cK Go.Proofs.Tryz.f46 g46
def c54:=cK Go.Proofs.Tryz.f54 g54
def c56:=cK Go.Proofs.Tryz.f56 g56
def c59:=cK Go.Proofs.Tryz.f59 g59
def c61:=cK Go.Proofs.Tryz.f61 g61
def c63:=cK Go.Proofs.Tryz.f63 g63
def c65:=cK Go.Proofs.Tryz.f65 g65
def c67:=cK Go.Proofs.Tryz.f67 g67
def c69:=cK Go.Proofs.Tryz.f69 g69
def c71:=cK Go.Proofs.Tryz.f71 g71
def c73:=cK Go.Proofs.Tryz.f73 g73
def c84:=cK Go.Proofs.Tryz.f84 g84
def c102:=cK Go.Proofs.Tryz.f102 zzJ
def c104:=cK Go.Proofs.Tryz.f104 zis
def c106:Go.Vse.zhZ Go.Proofs.Tryz.prog (fun i=>pur i&& !(Nat.beq i 184)) Go.Proofs.Tryz.f106=some g106:=by kernel_rfl
def c108:=cK Go.Proofs.Tryz.f108 zzN
def c110:=cK Go.Proofs.Tryz.f110 zzP
def c112:=cK Go.Proofs.Tryz.f112 zzQ
def c114:=cK Go.Proofs.Tryz.f114 zpm
def c116:=cK Go.Proofs.Tryz.f116 zlq
def c126:=cK Go.Proofs.Tryz.f126 zzV
def c128:=cK Go.Proofs.Tryz.f128 g128
def c130:=cK Go.Proofs.Tryz.f130 g130
def c132:=cK Go.Proofs.Tryz.f132 g132
def c134:=cK Go.Proofs.Tryz.f134 g134
def c136:=cK Go.Proofs.Tryz.f136 g136
def c138:=cK Go.Proofs.Tryz.f138 g138
def c140:=cK Go.Proofs.Tryz.f140 g140
def c142:=cK Go.Proofs.Tryz.f142 g142
def c144:=cK Go.Proofs.Tryz.f144 g144
def c146:=cK Go.Proofs.Tryz.f146 g146
def c181:=cK Go.Proofs.Tryz.f181 zlt
def c184:=cK Go.Proofs.Tryz.f184 g184
def c186:=cK Go.Proofs.Tryz.f186 zz3
def c188:=cK Go.Proofs.Tryz.f188 zjl
def c191:=cK Go.Proofs.Tryz.f191 zz8
def c198:=cK Go.Proofs.Tryz.f198 zAa
def c201:=cK Go.Proofs.Tryz.f201 g201
def c203:=cK Go.Proofs.Tryz.f203 g203
def c205:=cK Go.Proofs.Tryz.f205 g205
def c207:=cK Go.Proofs.Tryz.f207 g207
def c229:=cK Go.Proofs.Tryz.f229 zAc
def c231:=cK Go.Proofs.Tryz.f231 zAh
def c233:=cK Go.Proofs.Tryz.f233 zAj
def c237:=cK Go.Proofs.Tryz.f237 g237
def c257:=cK Go.Proofs.Tryz.f257 zAk
end Go.Proofs.YtdlcolcidohbkaaGreatDoor
