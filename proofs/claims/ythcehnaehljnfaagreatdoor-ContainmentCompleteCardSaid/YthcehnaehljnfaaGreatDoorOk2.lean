/- The resolved code is what the compiler makes of the program. Written by program. -/
import Derived.Test.YthcehnaehljnfaaGreatDoorProg
import Derived.Test.YthcehnaehljnfaaGreatDoorPr
import Derived.KernelRfl
set_option linter.all false
namespace Go.Proofs.YthcehnaehljnfaaGreatDoor
open Go.Vse
open Go (BinOp IntKind UnOp)
set_option maxRecDepth 100000
def c5:zad Tryz.prog pur Tryz.f5=some g5:=by kernel_rfl
def c9:zad Tryz.prog pur Tryz.f9=some g9:=by kernel_rfl
def c13:zad Tryz.prog pur Tryz.f13=some g13:=by kernel_rfl
def c17:zad Tryz.prog pur Tryz.f17=some g17:=by kernel_rfl
def c21:zad Tryz.prog pur Tryz.f21=some g21:=by kernel_rfl
def c25:zad Tryz.prog pur Tryz.f25=some g25:=by kernel_rfl
def c29:zad Tryz.prog pur Tryz.f29=some g29:=by kernel_rfl
def c33:zad Tryz.prog pur Tryz.f33=some g33:=by kernel_rfl
def c37:zad Tryz.prog pur Tryz.f37=some g37:=by kernel_rfl
def c41:zad Tryz.prog pur Tryz.f41=some g41:=by kernel_rfl
def c45:zad Tryz.prog pur Tryz.f45=some g45:=by kernel_rfl
def c49:zad Tryz.prog pur Tryz.f49=some g49:=by kernel_rfl
def c53:zad Tryz.prog pur Tryz.f53=some g53:=by kernel_rfl
def c57:zad Tryz.prog pur Tryz.f57=some g57:=by kernel_rfl
def c61:zad Tryz.prog pur Tryz.f61=some g61:=by kernel_rfl
def c65:zad Tryz.prog pur Tryz.f65=some g65:=by kernel_rfl
def c70:zad Tryz.prog pur Tryz.f70=some g70:=by kernel_rfl
def c74:zad Tryz.prog pur Tryz.f74=some g74:=by kernel_rfl
def c78:zad Tryz.prog pur Tryz.f78=some g78:=by kernel_rfl
def c82:zad Tryz.prog pur Tryz.f82=some g82:=by kernel_rfl
def c87:zad Tryz.prog pur Tryz.f87=some g87:=by kernel_rfl
def c91:zad Tryz.prog pur Tryz.f91=some g91:=by kernel_rfl
def c95:zad Tryz.prog pur Tryz.f95=some g95:=by kernel_rfl
def c99:zad Tryz.prog pur Tryz.f99=some g99:=by kernel_rfl
def c103:zad Tryz.prog pur Tryz.f103=some g103:=by kernel_rfl
def c107:zad Tryz.prog pur Tryz.f107=some g107:=by kernel_rfl
def c111:zad Tryz.prog pur Tryz.f111=some g111:=by kernel_rfl
def c115:zad Tryz.prog pur Tryz.f115=some zjk:=by kernel_rfl
def c119:zad Tryz.prog pur Tryz.f119=some zDk:=by kernel_rfl
def c123:zad Tryz.prog pur Tryz.f123=some zpc:=by kernel_rfl
def c134:zad Tryz.prog pur Tryz.f134=some g134:=by kernel_rfl
def c138:zad Tryz.prog pur Tryz.f138=some zDr:=by kernel_rfl
def c142:zad Tryz.prog pur Tryz.f142=some g142:=by kernel_rfl
def c147:zad Tryz.prog pur Tryz.f147=some g147:=by kernel_rfl
def c151:zad Tryz.prog pur Tryz.f151=some g151:=by kernel_rfl
def c158:zad Tryz.prog pur Tryz.f158=some g158:=by kernel_rfl
def c163:zad Tryz.prog pur Tryz.f163=some g163:=by kernel_rfl
def c167:zad Tryz.prog pur Tryz.f167=some g167:=by kernel_rfl
def c171:zad Tryz.prog pur Tryz.f171=some g171:=by kernel_rfl
def c176:zad Tryz.prog pur Tryz.f176=some g176:=by kernel_rfl
def c180:zad Tryz.prog pur Tryz.f180=some g180:=by kernel_rfl
def c185:zad Tryz.prog pur Tryz.f185=some zDv:=by kernel_rfl
def c190:zad Tryz.prog pur Tryz.f190=some zDy:=by kernel_rfl
def c200:zad Tryz.prog pur Tryz.f200=some g200:=by kernel_rfl
def c204:zad Tryz.prog pur Tryz.f204=some g204:=by kernel_rfl
def c216:zad Tryz.prog pur Tryz.f216=some g216:=by kernel_rfl
def c220:zad Tryz.prog pur Tryz.f220=some g220:=by kernel_rfl
def c228:zad Tryz.prog pur Tryz.f228=some g228:=by kernel_rfl
def c234:zad Tryz.prog pur Tryz.f234=some zDD:=by kernel_rfl
def c238:zad Tryz.prog pur Tryz.f238=some zDH:=by kernel_rfl
def c250:zad Tryz.prog pur Tryz.f250=some g250:=by kernel_rfl
def c255:zad Tryz.prog pur Tryz.f255=some zDJ:=by kernel_rfl
def c262:zad Tryz.prog pur Tryz.f262=some g262:=by kernel_rfl
def c274:zad Tryz.prog pur Tryz.f274=some g274:=by kernel_rfl
def c278:zad Tryz.prog pur Tryz.f278=some g278:=by kernel_rfl
end Go.Proofs.YthcehnaehljnfaaGreatDoor
