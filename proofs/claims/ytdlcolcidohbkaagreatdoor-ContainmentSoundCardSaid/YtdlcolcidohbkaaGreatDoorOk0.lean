/- The resolved code is what the compiler makes of the program. Written by program. -/
import Derived.Test.YtdlcolcidohbkaaGreatDoorProg
import Derived.Test.YtdlcolcidohbkaaGreatDoorPr
import Derived.KernelRfl
set_option linter.all false
namespace Go.Proofs.YtdlcolcidohbkaaGreatDoor
open Go.Vse
open Go (BinOp IntKind UnOp)
set_option maxRecDepth 100000
def cK(F:Go.Func)(g:Go.Vse.Fn)(h:Go.Vse.zhZ Go.Proofs.Tryz.prog pur F=some g:=by kernel_rfl):Go.Vse.zhZ Go.Proofs.Tryz.prog pur F=some g:=h
def c3:=cK Go.Proofs.Tryz.f3 g3
def c5:=cK Go.Proofs.Tryz.f5 g5
def c7:=cK Go.Proofs.Tryz.f7 g7
def c12:=cK Go.Proofs.Tryz.f12 g12
def c15:=cK Go.Proofs.Tryz.f15 g15
def c18:=cK Go.Proofs.Tryz.f18 g18
def c21:=cK Go.Proofs.Tryz.f21 g21
def c27:=cK Go.Proofs.Tryz.f27 g27
def c29:=cK Go.Proofs.Tryz.f29 g29
def c31:=cK Go.Proofs.Tryz.f31 g31
def c33:=cK Go.Proofs.Tryz.f33 g33
def c35:=cK Go.Proofs.Tryz.f35 g35
def c37:=cK Go.Proofs.Tryz.f37 g37
def c44:=cK Go.Proofs.Tryz.f44 g44
def c47:=cK Go.Proofs.Tryz.f47 g47
def c55:=cK Go.Proofs.Tryz.f55 g55
def c58:=cK Go.Proofs.Tryz.f58 g58
def c60:=cK Go.Proofs.Tryz.f60 g60
def c62:=cK Go.Proofs.Tryz.f62 g62
def c64:=cK Go.Proofs.Tryz.f64 g64
def c66:=cK Go.Proofs.Tryz.f66 g66
def c68:=cK Go.Proofs.Tryz.f68 g68
def c70:=cK Go.Proofs.Tryz.f70 g70
def c72:=cK Go.Proofs.Tryz.f72 g72
def c74:=cK Go.Proofs.Tryz.f74 g74
def c100:=cK Go.Proofs.Tryz.f100 zzI
def c103:=cK Go.Proofs.Tryz.f103 zkk
def c105:=cK Go.Proofs.Tryz.f105 zjc
def c107:=cK Go.Proofs.Tryz.f107 zzM
def c109:=cK Go.Proofs.Tryz.f109 zzO
def c111:=cK Go.Proofs.Tryz.f111 g111
def c113:=cK Go.Proofs.Tryz.f113 zpk
def c115:=cK Go.Proofs.Tryz.f115 zzS
def c125:=cK Go.Proofs.Tryz.f125 zzT
def c127:=cK Go.Proofs.Tryz.f127 zzY
def c129:=cK Go.Proofs.Tryz.f129 zzZ
def c131:=cK Go.Proofs.Tryz.f131 g131
def c133:=cK Go.Proofs.Tryz.f133 g133
def c135:=cK Go.Proofs.Tryz.f135 g135
def c137:=cK Go.Proofs.Tryz.f137 g137
def c139:=cK Go.Proofs.Tryz.f139 g139
def c141:=cK Go.Proofs.Tryz.f141 g141
def c143:=cK Go.Proofs.Tryz.f143 g143
def c145:=cK Go.Proofs.Tryz.f145 g145
def c150:=cK Go.Proofs.Tryz.f150 zz0
def c182:=cK Go.Proofs.Tryz.f182 zjh
def c185:=cK Go.Proofs.Tryz.f185 zz2
def c187:=cK Go.Proofs.Tryz.f187 zjk
def c189:=cK Go.Proofs.Tryz.f189 zz7
def c192:=cK Go.Proofs.Tryz.f192 zpp
def c199:=cK Go.Proofs.Tryz.f199 zAb
def c202:=cK Go.Proofs.Tryz.f202 g202
def c204:=cK Go.Proofs.Tryz.f204 g204
def c206:=cK Go.Proofs.Tryz.f206 g206
def c208:=cK Go.Proofs.Tryz.f208 g208
def c230:=cK Go.Proofs.Tryz.f230 zAd
def c232:=cK Go.Proofs.Tryz.f232 zAi
def c236:=cK Go.Proofs.Tryz.f236 g236
def c245:=cK Go.Proofs.Tryz.f245 g245
def c258:=cK Go.Proofs.Tryz.f258 zAm
end Go.Proofs.YtdlcolcidohbkaaGreatDoor
