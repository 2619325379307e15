/- The resolved code is what the compiler makes of the program. Written by program. -/
import Derived.Test.YtbhholaillniiaaGreatDoorProg
import Derived.Test.YtbhholaillniiaaGreatDoorPr
import Derived.Test.YtbhholaillniiaaGreatDoorOk0
import Derived.KernelRfl
set_option linter.all false
namespace Go.Proofs.YtbhholaillniiaaGreatDoor
open Go.Vse
open Go (BinOp IntKind UnOp)
set_option maxRecDepth 100000
def c4:=cK Go.Proofs.Tryz.f4 g4
def c8:=cK Go.Proofs.Tryz.f8 g8
def c13:=cK Go.Proofs.Tryz.f13 g13
def c20:=cK Go.Proofs.Tryz.f20 g20
def c25:=cK Go.Proofs.Tryz.f25 g25
def c29:=cK Go.Proofs.Tryz.f29 g29
def c34:=cK Go.Proofs.Tryz.f34 g34
def c39:=cK Go.Proofs.Tryz.f39 g39
def c44:=cK Go.Proofs.Tryz.f44 g44
def c55:=cK Go.Proofs.Tryz.f55 g55
def c60:=cK Go.Proofs.Tryz.f60 g60
def c65:=cK Go.Proofs.Tryz.f65 g65
def c69:=cK Go.Proofs.Tryz.f69 g69
def c75:Go.Vse.zhk Go.Proofs.Tryz.prog (fun i=>pur i&& !(Nat.beq i 135)) Go.Proofs.Tryz.f75=some g75:=by kernel_rfl
def c83:=cK Go.Proofs.Tryz.f83 g83
def c87:=cK Go.Proofs.Tryz.f87 g87
def c96:=cK Go.Proofs.Tryz.f96 g96
def c101:=cK Go.Proofs.Tryz.f101 zuy
def c106:=cK Go.Proofs.Tryz.f106 zzJ
def c112:=cK Go.Proofs.Tryz.f112 zzN
def c116:=cK Go.Proofs.Tryz.f116 g116
def c120:=cK Go.Proofs.Tryz.f120 zzT
def c132:=cK Go.Proofs.Tryz.f132 zzZ
def c144:=cK Go.Proofs.Tryz.f144 g144
def c148:=cK Go.Proofs.Tryz.f148 g148
def c152:=cK Go.Proofs.Tryz.f152 g152
def c157:=cK Go.Proofs.Tryz.f157 g157
def c163:=cK Go.Proofs.Tryz.f163 g163
def c167:=cK Go.Proofs.Tryz.f167 g167
def c173:=cK Go.Proofs.Tryz.f173 g173
def c183:=cK Go.Proofs.Tryz.f183 g183
def c187:=cK Go.Proofs.Tryz.f187 ziu
def c197:=cK Go.Proofs.Tryz.f197 zAb
def c209:=cK Go.Proofs.Tryz.f209 g209
def c216:=cK Go.Proofs.Tryz.f216 g216
def c226:=cK Go.Proofs.Tryz.f226 g226
def c230:=cK Go.Proofs.Tryz.f230 zAd
def c234:=cK Go.Proofs.Tryz.f234 zAk
def c254:=cK Go.Proofs.Tryz.f254 g254
def c258:=cK Go.Proofs.Tryz.f258 g258
def c270:=cK Go.Proofs.Tryz.f270 g270
end Go.Proofs.YtbhholaillniiaaGreatDoor
