/- The resolved code is what the compiler makes of the program. Written by program. -/
import Derived.Test.YtlmnmaginhebdaaGreatDoorProg
import Derived.Test.YtlmnmaginhebdaaGreatDoorPr
import Derived.KernelRfl
set_option linter.all false
namespace Go.Proofs.YtlmnmaginhebdaaGreatDoor
open Go.Vse
open Go (BinOp IntKind UnOp)
set_option maxRecDepth 100000
def c5:zad Tryz.prog pur Tryz.f5=some g5:=by kernel_rfl
def c9:zad Tryz.prog pur Tryz.f9=some g9:=by kernel_rfl
def c13:zad Tryz.prog pur Tryz.f13=some g13:=by kernel_rfl
def c17:zad Tryz.prog pur Tryz.f17=some g17:=by kernel_rfl
def c21:zad Tryz.prog pur Tryz.f21=some g21:=by kernel_rfl
def c25:zad Tryz.prog pur Tryz.f25=some g25:=by kernel_rfl
def c29:zad Tryz.prog pur Tryz.f29=some g29:=by kernel_rfl
def c33:zad Tryz.prog pur Tryz.f33=some g33:=by kernel_rfl
def c37:zad Tryz.prog pur Tryz.f37=some g37:=by kernel_rfl
def c41:zad Tryz.prog pur Tryz.f41=some g41:=by kernel_rfl
def c45:zad Tryz.prog pur Tryz.f45=some g45:=by kernel_rfl
def c50:zad Tryz.prog pur Tryz.f50=some g50:=by kernel_rfl
def c54:zad Tryz.prog pur Tryz.f54=some g54:=by kernel_rfl
def c58:zad Tryz.prog pur Tryz.f58=some g58:=by kernel_rfl
def c62:zad Tryz.prog pur Tryz.f62=some g62:=by kernel_rfl
def c66:zad Tryz.prog pur Tryz.f66=some g66:=by kernel_rfl
def c70:zad Tryz.prog pur Tryz.f70=some g70:=by kernel_rfl
def c74:zad Tryz.prog pur Tryz.f74=some g74:=by kernel_rfl
def c78:zad Tryz.prog pur Tryz.f78=some g78:=by kernel_rfl
def c82:zad Tryz.prog pur Tryz.f82=some g82:=by kernel_rfl
def c86:zad Tryz.prog pur Tryz.f86=some g86:=by kernel_rfl
def c91:zad Tryz.prog pur Tryz.f91=some g91:=by kernel_rfl
def c95:zad Tryz.prog pur Tryz.f95=some g95:=by kernel_rfl
def c105:zad Tryz.prog pur Tryz.f105=some g105:=by kernel_rfl
def c109:zad Tryz.prog pur Tryz.f109=some g109:=by kernel_rfl
def c113:zad Tryz.prog pur Tryz.f113=some g113:=by kernel_rfl
def c117:zad Tryz.prog pur Tryz.f117=some g117:=by kernel_rfl
def c129:zad Tryz.prog pur Tryz.f129=some g129:=by kernel_rfl
def c133:zad Tryz.prog pur Tryz.f133=some g133:=by kernel_rfl
def c137:zad Tryz.prog pur Tryz.f137=some g137:=by kernel_rfl
def c142:zad Tryz.prog pur Tryz.f142=some g142:=by kernel_rfl
def c146:zad Tryz.prog pur Tryz.f146=some g146:=by kernel_rfl
def c150:zad Tryz.prog pur Tryz.f150=some g150:=by kernel_rfl
def c154:zad Tryz.prog pur Tryz.f154=some g154:=by kernel_rfl
def c161:zad Tryz.prog pur Tryz.f161=some g161:=by kernel_rfl
def c165:zad Tryz.prog pur Tryz.f165=some g165:=by kernel_rfl
def c169:zad Tryz.prog pur Tryz.f169=some g169:=by kernel_rfl
def c174:zad Tryz.prog pur Tryz.f174=some g174:=by kernel_rfl
def c179:zad Tryz.prog pur Tryz.f179=some g179:=by kernel_rfl
def c183:zad Tryz.prog pur Tryz.f183=some zDl:=by kernel_rfl
def c188:zad Tryz.prog pur Tryz.f188=some g188:=by kernel_rfl
def c200:zad Tryz.prog pur Tryz.f200=some g200:=by kernel_rfl
def c215:zad Tryz.prog pur Tryz.f215=some g215:=by kernel_rfl
def c227:zad Tryz.prog pur Tryz.f227=some g227:=by kernel_rfl
def c232:zad Tryz.prog pur Tryz.f232=some g232:=by kernel_rfl
def c236:zad Tryz.prog pur Tryz.f236=some g236:=by kernel_rfl
def c240:zad Tryz.prog pur Tryz.f240=some g240:=by kernel_rfl
def c244:zad Tryz.prog pur Tryz.f244=some g244:=by kernel_rfl
def c250:zad Tryz.prog pur Tryz.f250=some g250:=by kernel_rfl
def c256:zad Tryz.prog pur Tryz.f256=some g256:=by kernel_rfl
def c278:zad Tryz.prog pur Tryz.f278=some g278:=by kernel_rfl
def c290:zad Tryz.prog pur Tryz.f290=some g290:=by kernel_rfl
def c338:zad Tryz.prog pur Tryz.f338=some g338:=by kernel_rfl
end Go.Proofs.YtlmnmaginhebdaaGreatDoor
