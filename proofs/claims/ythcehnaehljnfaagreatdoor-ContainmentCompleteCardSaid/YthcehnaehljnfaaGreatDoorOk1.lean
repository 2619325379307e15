/- The resolved code is what the compiler makes of the program. Written by program. -/
import Derived.Test.YthcehnaehljnfaaGreatDoorProg
import Derived.Test.YthcehnaehljnfaaGreatDoorPr
import Derived.KernelRfl
set_option linter.all false
namespace Go.Proofs.YthcehnaehljnfaaGreatDoor
open Go.Vse
open Go (BinOp IntKind UnOp)
set_option maxRecDepth 100000
def c4:zad Tryz.prog pur Tryz.f4=some g4:=by kernel_rfl
def c12:zad Tryz.prog pur Tryz.f12=some g12:=by kernel_rfl
def c16:zad Tryz.prog pur Tryz.f16=some g16:=by kernel_rfl
def c20:zad Tryz.prog pur Tryz.f20=some g20:=by kernel_rfl
def c24:zad Tryz.prog pur Tryz.f24=some g24:=by kernel_rfl
def c28:zad Tryz.prog pur Tryz.f28=some g28:=by kernel_rfl
def c32:zad Tryz.prog pur Tryz.f32=some g32:=by kernel_rfl
def c36:zad Tryz.prog pur Tryz.f36=some g36:=by kernel_rfl
def c40:zad Tryz.prog pur Tryz.f40=some g40:=by kernel_rfl
def c44:zad Tryz.prog pur Tryz.f44=some g44:=by kernel_rfl
def c48:zad Tryz.prog pur Tryz.f48=some g48:=by kernel_rfl
def c52:zad Tryz.prog pur Tryz.f52=some g52:=by kernel_rfl
def c56:zad Tryz.prog pur Tryz.f56=some g56:=by kernel_rfl
def c60:zad Tryz.prog pur Tryz.f60=some g60:=by kernel_rfl
def c64:zad Tryz.prog pur Tryz.f64=some g64:=by kernel_rfl
def c69:zad Tryz.prog pur Tryz.f69=some g69:=by kernel_rfl
def c73:zad Tryz.prog pur Tryz.f73=some g73:=by kernel_rfl
def c77:zad Tryz.prog pur Tryz.f77=some g77:=by kernel_rfl
def c81:zad Tryz.prog pur Tryz.f81=some g81:=by kernel_rfl
def c86:zad Tryz.prog pur Tryz.f86=some g86:=by kernel_rfl
def c90:zad Tryz.prog pur Tryz.f90=some g90:=by kernel_rfl
def c94:zad Tryz.prog pur Tryz.f94=some g94:=by kernel_rfl
def c98:zad Tryz.prog pur Tryz.f98=some g98:=by kernel_rfl
def c102:zad Tryz.prog pur Tryz.f102=some g102:=by kernel_rfl
def c106:zad Tryz.prog pur Tryz.f106=some g106:=by kernel_rfl
def c110:zad Tryz.prog pur Tryz.f110=some g110:=by kernel_rfl
def c114:zad Tryz.prog pur Tryz.f114=some zjh:=by kernel_rfl
def c118:zad Tryz.prog pur Tryz.f118=some zDi:=by kernel_rfl
def c122:zad Tryz.prog pur Tryz.f122=some zDm:=by kernel_rfl
def c126:zad Tryz.prog pur Tryz.f126=some zkq:=by kernel_rfl
def c137:zad Tryz.prog pur Tryz.f137=some zDq:=by kernel_rfl
def c141:zad Tryz.prog pur Tryz.f141=some g141:=by kernel_rfl
def c146:zad Tryz.prog pur Tryz.f146=some g146:=by kernel_rfl
def c150:zad Tryz.prog pur Tryz.f150=some g150:=by kernel_rfl
def c157:zad Tryz.prog pur Tryz.f157=some g157:=by kernel_rfl
def c162:zad Tryz.prog pur Tryz.f162=some g162:=by kernel_rfl
def c166:zad Tryz.prog pur Tryz.f166=some g166:=by kernel_rfl
def c170:zad Tryz.prog pur Tryz.f170=some g170:=by kernel_rfl
def c175:zad Tryz.prog pur Tryz.f175=some g175:=by kernel_rfl
def c179:zad Tryz.prog pur Tryz.f179=some g179:=by kernel_rfl
def c184:zad Tryz.prog pur Tryz.f184=some zDt:=by kernel_rfl
def c188:zad Tryz.prog pur Tryz.f188=some zDx:=by kernel_rfl
def c198:zad Tryz.prog pur Tryz.f198=some zDB:=by kernel_rfl
def c203:zad Tryz.prog pur Tryz.f203=some g203:=by kernel_rfl
def c215:zad Tryz.prog pur Tryz.f215=some g215:=by kernel_rfl
def c219:zad Tryz.prog pur Tryz.f219=some g219:=by kernel_rfl
def c227:zad Tryz.prog pur Tryz.f227=some g227:=by kernel_rfl
def c233:zad Tryz.prog pur Tryz.f233=some g233:=by kernel_rfl
def c237:zad Tryz.prog pur Tryz.f237=some zDG:=by kernel_rfl
def c247:zad Tryz.prog pur Tryz.f247=some g247:=by kernel_rfl
def c253:zad Tryz.prog pur Tryz.f253=some g253:=by kernel_rfl
def c258:zad Tryz.prog pur Tryz.f258=some g258:=by kernel_rfl
def c267:zad Tryz.prog pur Tryz.f267=some g267:=by kernel_rfl
def c277:zad Tryz.prog pur Tryz.f277=some g277:=by kernel_rfl
end Go.Proofs.YthcehnaehljnfaaGreatDoor
