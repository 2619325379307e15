/- The resolved code is what the compiler makes of the program. Written by program. -/
import Derived.Test.YtkcnnkncapiohaaGreatDoorProg
import Derived.Test.YtkcnnkncapiohaaGreatDoorPr
import Derived.KernelRfl
set_option linter.all false
namespace Go.Proofs.YtkcnnkncapiohaaGreatDoor
open Go.Vse
open Go (BinOp IntKind UnOp)
set_option maxRecDepth 100000
def c5:zab Tryz.prog pur Tryz.f5=some g5:=by kernel_rfl
def c9:zab Tryz.prog pur Tryz.f9=some g9:=by kernel_rfl
def c13:zab Tryz.prog pur Tryz.f13=some g13:=by kernel_rfl
def c17:zab Tryz.prog pur Tryz.f17=some g17:=by kernel_rfl
def c21:zab Tryz.prog pur Tryz.f21=some g21:=by kernel_rfl
def c25:zab Tryz.prog pur Tryz.f25=some g25:=by kernel_rfl
def c29:zab Tryz.prog pur Tryz.f29=some g29:=by kernel_rfl
def c33:zab Tryz.prog pur Tryz.f33=some g33:=by kernel_rfl
def c37:zab Tryz.prog pur Tryz.f37=some g37:=by kernel_rfl
def c41:zab Tryz.prog pur Tryz.f41=some g41:=by kernel_rfl
def c49:zab Tryz.prog pur Tryz.f49=some g49:=by kernel_rfl
def c53:zab Tryz.prog pur Tryz.f53=some g53:=by kernel_rfl
def c57:zab Tryz.prog pur Tryz.f57=some g57:=by kernel_rfl
def c65:zab Tryz.prog pur Tryz.f65=some g65:=by kernel_rfl
def c69:zab Tryz.prog pur Tryz.f69=some g69:=by kernel_rfl
def c73:zab Tryz.prog pur Tryz.f73=some g73:=by kernel_rfl
def c77:zab Tryz.prog pur Tryz.f77=some g77:=by kernel_rfl
def c81:zab Tryz.prog pur Tryz.f81=some g81:=by kernel_rfl
def c89:zab Tryz.prog pur Tryz.f89=some g89:=by kernel_rfl
def c93:zab Tryz.prog pur Tryz.f93=some g93:=by kernel_rfl
def c97:zab Tryz.prog pur Tryz.f97=some g97:=by kernel_rfl
def c101:zab Tryz.prog pur Tryz.f101=some g101:=by kernel_rfl
def c105:zab Tryz.prog pur Tryz.f105=some g105:=by kernel_rfl
def c109:zab Tryz.prog pur Tryz.f109=some g109:=by kernel_rfl
def c113:zab Tryz.prog pur Tryz.f113=some zBi:=by kernel_rfl
def c117:zab Tryz.prog pur Tryz.f117=some zBl:=by kernel_rfl
def c121:zab Tryz.prog pur Tryz.f121=some zBs:=by kernel_rfl
def c129:zab Tryz.prog pur Tryz.f129=some g129:=by kernel_rfl
def c133:zab Tryz.prog pur Tryz.f133=some g133:=by kernel_rfl
def c141:zab Tryz.prog pur Tryz.f141=some g141:=by kernel_rfl
def c153:zab Tryz.prog pur Tryz.f153=some g153:=by kernel_rfl
def c157:zab Tryz.prog pur Tryz.f157=some g157:=by kernel_rfl
def c161:zab Tryz.prog pur Tryz.f161=some g161:=by kernel_rfl
def c169:zab Tryz.prog pur Tryz.f169=some zsP:=by kernel_rfl
def c173:zab Tryz.prog pur Tryz.f173=some zBB:=by kernel_rfl
def c185:zab Tryz.prog pur Tryz.f185=some g185:=by kernel_rfl
def c193:zab Tryz.prog pur Tryz.f193=some g193:=by kernel_rfl
def c197:zab Tryz.prog pur Tryz.f197=some g197:=by kernel_rfl
def c201:zab Tryz.prog pur Tryz.f201=some g201:=by kernel_rfl
def c205:zab Tryz.prog pur Tryz.f205=some g205:=by kernel_rfl
def c209:zab Tryz.prog pur Tryz.f209=some zBD:=by kernel_rfl
def c213:zab Tryz.prog pur Tryz.f213=some g213:=by kernel_rfl
def c217:zab Tryz.prog pur Tryz.f217=some g217:=by kernel_rfl
def c221:zab Tryz.prog pur Tryz.f221=some g221:=by kernel_rfl
def c225:zab Tryz.prog pur Tryz.f225=some g225:=by kernel_rfl
def c229:zab Tryz.prog pur Tryz.f229=some g229:=by kernel_rfl
def c233:zab Tryz.prog pur Tryz.f233=some g233:=by kernel_rfl
def c237:zab Tryz.prog pur Tryz.f237=some g237:=by kernel_rfl
def c241:zab Tryz.prog pur Tryz.f241=some g241:=by kernel_rfl
def c245:zab Tryz.prog pur Tryz.f245=some g245:=by kernel_rfl
def c249:zab Tryz.prog pur Tryz.f249=some g249:=by kernel_rfl
def c253:zab Tryz.prog pur Tryz.f253=some g253:=by kernel_rfl
def c257:zab Tryz.prog pur Tryz.f257=some g257:=by kernel_rfl
def c261:zab Tryz.prog pur Tryz.f261=some g261:=by kernel_rfl
def c265:zab Tryz.prog pur Tryz.f265=some g265:=by kernel_rfl
def c269:zab Tryz.prog pur Tryz.f269=some g269:=by kernel_rfl
def c274:zab Tryz.prog pur Tryz.f274=some g274:=by kernel_rfl
def c278:zab Tryz.prog pur Tryz.f278=some g278:=by kernel_rfl
end Go.Proofs.YtkcnnkncapiohaaGreatDoor
