/- The resolved code is what the compiler makes of the program. Written by program. -/
import Derived.Test.YtlinkhjnihjbaaaGreatDoorProg
import Derived.Test.YtlinkhjnihjbaaaGreatDoorPr
import Derived.KernelRfl
set_option linter.all false
namespace Go.Proofs.YtlinkhjnihjbaaaGreatDoor
open Go.Vse
open Go (BinOp IntKind UnOp)
set_option maxRecDepth 100000
def c5:zae Tryz.prog pur Tryz.f5=some g5:=by kernel_rfl
def c9:zae Tryz.prog pur Tryz.f9=some g9:=by kernel_rfl
def c13:zae Tryz.prog pur Tryz.f13=some g13:=by kernel_rfl
def c17:zae Tryz.prog pur Tryz.f17=some g17:=by kernel_rfl
def c21:zae Tryz.prog pur Tryz.f21=some g21:=by kernel_rfl
def c25:zae Tryz.prog pur Tryz.f25=some g25:=by kernel_rfl
def c29:zae Tryz.prog pur Tryz.f29=some g29:=by kernel_rfl
def c33:zae Tryz.prog pur Tryz.f33=some g33:=by kernel_rfl
def c37:zae Tryz.prog pur Tryz.f37=some g37:=by kernel_rfl
def c41:zae Tryz.prog pur Tryz.f41=some g41:=by kernel_rfl
def c45:zae Tryz.prog pur Tryz.f45=some g45:=by kernel_rfl
def c50:zae Tryz.prog pur Tryz.f50=some g50:=by kernel_rfl
def c55:zae Tryz.prog pur Tryz.f55=some g55:=by kernel_rfl
def c61:zae Tryz.prog pur Tryz.f61=some g61:=by kernel_rfl
def c65:zae Tryz.prog pur Tryz.f65=some g65:=by kernel_rfl
def c70:zae Tryz.prog pur Tryz.f70=some g70:=by kernel_rfl
def c74:zae Tryz.prog pur Tryz.f74=some g74:=by kernel_rfl
def c78:zae Tryz.prog pur Tryz.f78=some g78:=by kernel_rfl
def c82:zae Tryz.prog pur Tryz.f82=some g82:=by kernel_rfl
def c86:zae Tryz.prog pur Tryz.f86=some g86:=by kernel_rfl
def c93:zae Tryz.prog pur Tryz.f93=some g93:=by kernel_rfl
def c97:zae Tryz.prog pur Tryz.f97=some g97:=by kernel_rfl
def c101:zae Tryz.prog pur Tryz.f101=some g101:=by kernel_rfl
def c105:zae Tryz.prog pur Tryz.f105=some g105:=by kernel_rfl
def c113:zae Tryz.prog pur Tryz.f113=some zys:=by kernel_rfl
def c118:zae Tryz.prog pur Tryz.f118=some zuo:=by kernel_rfl
def c122:zae Tryz.prog pur Tryz.f122=some g122:=by kernel_rfl
def c128:zae Tryz.prog pur Tryz.f128=some g128:=by kernel_rfl
def c134:zae Tryz.prog pur Tryz.f134=some zyx:=by kernel_rfl
def c139:zae Tryz.prog pur Tryz.f139=some g139:=by kernel_rfl
def c143:zae Tryz.prog pur Tryz.f143=some g143:=by kernel_rfl
def c148:zae Tryz.prog pur Tryz.f148=some g148:=by kernel_rfl
def c154:zae Tryz.prog pur Tryz.f154=some g154:=by kernel_rfl
def c158:zae Tryz.prog pur Tryz.f158=some g158:=by kernel_rfl
def c162:zae Tryz.prog pur Tryz.f162=some g162:=by kernel_rfl
def c170:zae Tryz.prog pur Tryz.f170=some g170:=by kernel_rfl
def c182:zae Tryz.prog pur Tryz.f182=some g182:=by kernel_rfl
def c186:zae Tryz.prog pur Tryz.f186=some g186:=by kernel_rfl
def c190:zae Tryz.prog pur Tryz.f190=some g190:=by kernel_rfl
def c198:zae Tryz.prog pur Tryz.f198=some g198:=by kernel_rfl
def c202:zae Tryz.prog pur Tryz.f202=some g202:=by kernel_rfl
def c208:zae Tryz.prog pur Tryz.f208=some zyz:=by kernel_rfl
def c212:zae Tryz.prog pur Tryz.f212=some g212:=by kernel_rfl
def c221:zae Tryz.prog pur Tryz.f221=some zyC:=by kernel_rfl
def c227:zae Tryz.prog pur Tryz.f227=some g227:=by kernel_rfl
def c231:zae Tryz.prog pur Tryz.f231=some g231:=by kernel_rfl
def c240:zae Tryz.prog pur Tryz.f240=some g240:=by kernel_rfl
def c244:zae Tryz.prog pur Tryz.f244=some g244:=by kernel_rfl
def c249:zae Tryz.prog pur Tryz.f249=some g249:=by kernel_rfl
def c253:zae Tryz.prog pur Tryz.f253=some g253:=by kernel_rfl
def c258:zae Tryz.prog pur Tryz.f258=some g258:=by kernel_rfl
def c264:zae Tryz.prog pur Tryz.f264=some g264:=by kernel_rfl
def c272:zae Tryz.prog pur Tryz.f272=some g272:=by kernel_rfl
def c278:zae Tryz.prog pur Tryz.f278=some g278:=by kernel_rfl
def c283:zae Tryz.prog pur Tryz.f283=some g283:=by kernel_rfl
def c288:zae Tryz.prog pur Tryz.f288=some g288:=by kernel_rfl
def c292:zae Tryz.prog pur Tryz.f292=some g292:=by kernel_rfl
def c301:zae Tryz.prog pur Tryz.f301=some g301:=by kernel_rfl
def c308:zae Tryz.prog pur Tryz.f308=some g308:=by kernel_rfl
def c317:zae Tryz.prog pur Tryz.f317=some g317:=by kernel_rfl
def c323:zae Tryz.prog pur Tryz.f323=some zyN:=by kernel_rfl
def c329:zae Tryz.prog pur Tryz.f329=some g329:=by kernel_rfl
def c334:zae Tryz.prog pur Tryz.f334=some g334:=by kernel_rfl
def c339:zae Tryz.prog pur Tryz.f339=some g339:=by kernel_rfl
def c355:zae Tryz.prog pur Tryz.f355=some g355:=by kernel_rfl
end Go.Proofs.YtlinkhjnihjbaaaGreatDoor
