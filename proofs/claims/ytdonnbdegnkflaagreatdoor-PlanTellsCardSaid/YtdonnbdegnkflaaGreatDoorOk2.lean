/- The resolved code is what the compiler makes of the program. Written by program. -/
import Derived.Test.YtdonnbdegnkflaaGreatDoorProg
import Derived.Test.YtdonnbdegnkflaaGreatDoorPr
import Derived.KernelRfl
set_option linter.all false
namespace Go.Proofs.YtdonnbdegnkflaaGreatDoor
open Go.Vse
open Go (BinOp IntKind UnOp)
set_option maxRecDepth 100000
def c5:zad Tryz.prog pur Tryz.f5=some g5:=by kernel_rfl
def c9:zad Tryz.prog pur Tryz.f9=some g9:=by kernel_rfl
def c13:zad Tryz.prog pur Tryz.f13=some g13:=by kernel_rfl
def c17:zad Tryz.prog pur Tryz.f17=some g17:=by kernel_rfl
def c21:zad Tryz.prog pur Tryz.f21=some g21:=by kernel_rfl
def c25:zad Tryz.prog pur Tryz.f25=some g25:=by kernel_rfl
def c29:zad Tryz.prog pur Tryz.f29=some g29:=by kernel_rfl
def c33:zad Tryz.prog pur Tryz.f33=some g33:=by kernel_rfl
def c37:zad Tryz.prog pur Tryz.f37=some g37:=by kernel_rfl
def c41:zad Tryz.prog pur Tryz.f41=some g41:=by kernel_rfl
def c45:zad Tryz.prog pur Tryz.f45=some g45:=by kernel_rfl
def c49:zad Tryz.prog pur Tryz.f49=some g49:=by kernel_rfl
def c53:zad Tryz.prog pur Tryz.f53=some g53:=by kernel_rfl
def c57:zad Tryz.prog pur Tryz.f57=some g57:=by kernel_rfl
def c61:zad Tryz.prog pur Tryz.f61=some g61:=by kernel_rfl
def c66:zad Tryz.prog pur Tryz.f66=some g66:=by kernel_rfl
def c70:zad Tryz.prog pur Tryz.f70=some g70:=by kernel_rfl
def c74:zad Tryz.prog pur Tryz.f74=some g74:=by kernel_rfl
def c78:zad Tryz.prog pur Tryz.f78=some g78:=by kernel_rfl
def c82:zad Tryz.prog pur Tryz.f82=some g82:=by kernel_rfl
def c86:zad Tryz.prog pur Tryz.f86=some g86:=by kernel_rfl
def c90:zad Tryz.prog pur Tryz.f90=some g90:=by kernel_rfl
def c94:zad Tryz.prog pur Tryz.f94=some g94:=by kernel_rfl
def c105:zad Tryz.prog pur Tryz.f105=some zFN:=by kernel_rfl
def c110:zad Tryz.prog pur Tryz.f110=some g110:=by kernel_rfl
def c115:zad Tryz.prog pur Tryz.f115=some g115:=by kernel_rfl
def c119:zad Tryz.prog pur Tryz.f119=some g119:=by kernel_rfl
def c129:zad Tryz.prog pur Tryz.f129=some g129:=by kernel_rfl
def c133:zad Tryz.prog pur Tryz.f133=some g133:=by kernel_rfl
def c137:zad Tryz.prog pur Tryz.f137=some g137:=by kernel_rfl
def c141:zad Tryz.prog pur Tryz.f141=some g141:=by kernel_rfl
def c153:zad Tryz.prog pur Tryz.f153=some g153:=by kernel_rfl
def c157:zad Tryz.prog pur Tryz.f157=some g157:=by kernel_rfl
def c161:zad Tryz.prog pur Tryz.f161=some g161:=by kernel_rfl
def c171:zad Tryz.prog pur Tryz.f171=some g171:=by kernel_rfl
def c175:zad Tryz.prog pur Tryz.f175=some g175:=by kernel_rfl
def c180:zad Tryz.prog pur Tryz.f180=some g180:=by kernel_rfl
def c187:zad Tryz.prog pur Tryz.f187=some g187:=by kernel_rfl
def c191:zad Tryz.prog pur Tryz.f191=some g191:=by kernel_rfl
def c196:zad Tryz.prog pur Tryz.f196=some g196:=by kernel_rfl
def c201:zad Tryz.prog pur Tryz.f201=some g201:=by kernel_rfl
def c205:zad Tryz.prog pur Tryz.f205=some g205:=by kernel_rfl
def c210:zad Tryz.prog pur Tryz.f210=some g210:=by kernel_rfl
def c222:zad Tryz.prog pur Tryz.f222=some g222:=by kernel_rfl
def c235:zad Tryz.prog pur Tryz.f235=some g235:=by kernel_rfl
def c249:zad Tryz.prog pur Tryz.f249=some g249:=by kernel_rfl
def c254:zad Tryz.prog pur Tryz.f254=some g254:=by kernel_rfl
def c258:zad Tryz.prog pur Tryz.f258=some g258:=by kernel_rfl
def c263:zad Tryz.prog pur Tryz.f263=some g263:=by kernel_rfl
def c269:zad Tryz.prog pur Tryz.f269=some g269:=by kernel_rfl
def c274:zad Tryz.prog pur Tryz.f274=some g274:=by kernel_rfl
def c302:zad Tryz.prog pur Tryz.f302=some g302:=by kernel_rfl
def c383:zad Tryz.prog pur Tryz.f383=some g383:=by kernel_rfl
end Go.Proofs.YtdonnbdegnkflaaGreatDoor
