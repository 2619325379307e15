/- The resolved code is what the compiler makes of the program. Written by program. -/
import Derived.Test.YtlinkhjnihjbaaaGreatDoorProg
import Derived.Test.YtlinkhjnihjbaaaGreatDoorPr
import Derived.KernelRfl
set_option linter.all false
namespace Go.Proofs.YtlinkhjnihjbaaaGreatDoor
open Go.Vse
open Go (BinOp IntKind UnOp)
set_option maxRecDepth 100000
def c3:zae Tryz.prog pur Tryz.f3=some g3:=by kernel_rfl
def c7:zae Tryz.prog pur Tryz.f7=some g7:=by kernel_rfl
def c11:zae Tryz.prog pur Tryz.f11=some g11:=by kernel_rfl
def c15:zae Tryz.prog pur Tryz.f15=some g15:=by kernel_rfl
def c19:zae Tryz.prog pur Tryz.f19=some g19:=by kernel_rfl
def c23:zae Tryz.prog pur Tryz.f23=some g23:=by kernel_rfl
def c27:zae Tryz.prog pur Tryz.f27=some g27:=by kernel_rfl
def c31:zae Tryz.prog pur Tryz.f31=some g31:=by kernel_rfl
def c35:zae Tryz.prog pur Tryz.f35=some g35:=by kernel_rfl
def c39:zae Tryz.prog pur Tryz.f39=some g39:=by kernel_rfl
def c43:zae Tryz.prog pur Tryz.f43=some g43:=by kernel_rfl
def c48:zae Tryz.prog pur Tryz.f48=some g48:=by kernel_rfl
def c52:zae Tryz.prog pur Tryz.f52=some g52:=by kernel_rfl
def c59:zae Tryz.prog pur Tryz.f59=some g59:=by kernel_rfl
def c63:zae Tryz.prog pur Tryz.f63=some g63:=by kernel_rfl
def c68:zae Tryz.prog pur Tryz.f68=some g68:=by kernel_rfl
def c72:zae Tryz.prog pur Tryz.f72=some g72:=by kernel_rfl
def c76:zae Tryz.prog pur Tryz.f76=some g76:=by kernel_rfl
def c80:zae Tryz.prog pur Tryz.f80=some g80:=by kernel_rfl
def c84:zae Tryz.prog pur Tryz.f84=some g84:=by kernel_rfl
def c88:zae Tryz.prog pur Tryz.f88=some g88:=by kernel_rfl
def c95:zae Tryz.prog pur Tryz.f95=some g95:=by kernel_rfl
def c99:zae Tryz.prog pur Tryz.f99=some g99:=by kernel_rfl
def c103:zae Tryz.prog pur Tryz.f103=some g103:=by kernel_rfl
def c109:zae Tryz.prog pur Tryz.f109=some g109:=by kernel_rfl
def c116:zae Tryz.prog pur Tryz.f116=some g116:=by kernel_rfl
def c120:zae Tryz.prog pur Tryz.f120=some g120:=by kernel_rfl
def c124:zae Tryz.prog pur Tryz.f124=some g124:=by kernel_rfl
def c130:zae Tryz.prog pur Tryz.f130=some g130:=by kernel_rfl
def c136:zae Tryz.prog pur Tryz.f136=some g136:=by kernel_rfl
def c141:zae Tryz.prog pur Tryz.f141=some g141:=by kernel_rfl
def c145:zae Tryz.prog pur Tryz.f145=some g145:=by kernel_rfl
def c152:zae Tryz.prog pur Tryz.f152=some g152:=by kernel_rfl
def c156:zae Tryz.prog pur Tryz.f156=some g156:=by kernel_rfl
def c160:zae Tryz.prog pur Tryz.f160=some g160:=by kernel_rfl
def c164:zae Tryz.prog pur Tryz.f164=some g164:=by kernel_rfl
def c173:zae Tryz.prog pur Tryz.f173=some g173:=by kernel_rfl
def c184:zae Tryz.prog pur Tryz.f184=some g184:=by kernel_rfl
def c188:zae Tryz.prog pur Tryz.f188=some zyy:=by kernel_rfl
def c192:zae Tryz.prog pur Tryz.f192=some g192:=by kernel_rfl
def c200:zae Tryz.prog pur Tryz.f200=some g200:=by kernel_rfl
def c206:zae Tryz.prog pur Tryz.f206=some g206:=by kernel_rfl
def c210:zae Tryz.prog pur Tryz.f210=some g210:=by kernel_rfl
def c214:zae Tryz.prog pur Tryz.f214=some zyB:=by kernel_rfl
def c225:zae Tryz.prog pur Tryz.f225=some zyG:=by kernel_rfl
def c229:zae Tryz.prog pur Tryz.f229=some g229:=by kernel_rfl
def c233:zae Tryz.prog pur Tryz.f233=some g233:=by kernel_rfl
def c242:zae Tryz.prog pur Tryz.f242=some g242:=by kernel_rfl
def c246:zae Tryz.prog pur Tryz.f246=some g246:=by kernel_rfl
def c251:zae Tryz.prog pur Tryz.f251=some g251:=by kernel_rfl
def c256:zae Tryz.prog pur Tryz.f256=some g256:=by kernel_rfl
def c262:zae Tryz.prog pur Tryz.f262=some g262:=by kernel_rfl
def c270:zae Tryz.prog pur Tryz.f270=some g270:=by kernel_rfl
def c274:zae Tryz.prog pur Tryz.f274=some g274:=by kernel_rfl
def c280:zae Tryz.prog pur Tryz.f280=some g280:=by kernel_rfl
def c286:zae Tryz.prog pur Tryz.f286=some zyI:=by kernel_rfl
def c290:zae Tryz.prog pur Tryz.f290=some g290:=by kernel_rfl
def c299:zae Tryz.prog pur Tryz.f299=some g299:=by kernel_rfl
def c305:zae Tryz.prog pur Tryz.f305=some g305:=by kernel_rfl
def c312:zae Tryz.prog pur Tryz.f312=some g312:=by kernel_rfl
def c321:zae Tryz.prog pur Tryz.f321=some g321:=by kernel_rfl
def c325:zae Tryz.prog pur Tryz.f325=some zyP:=by kernel_rfl
def c332:zae Tryz.prog pur Tryz.f332=some g332:=by kernel_rfl
def c336:zae Tryz.prog pur Tryz.f336=some g336:=by kernel_rfl
def c346:zae Tryz.prog pur Tryz.f346=some g346:=by kernel_rfl
end Go.Proofs.YtlinkhjnihjbaaaGreatDoor
