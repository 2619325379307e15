/- The resolved code is what the compiler makes of the program. Written by program. -/
import Derived.Test.YtlmnmaginhebdaaGreatDoorProg
import Derived.Test.YtlmnmaginhebdaaGreatDoorPr
import Derived.KernelRfl
set_option linter.all false
namespace Go.Proofs.YtlmnmaginhebdaaGreatDoor
open Go.Vse
open Go (BinOp IntKind UnOp)
set_option maxRecDepth 100000
def c4:zad Tryz.prog pur Tryz.f4=some g4:=by kernel_rfl
def c8:zad Tryz.prog pur Tryz.f8=some g8:=by kernel_rfl
def c12:zad Tryz.prog pur Tryz.f12=some g12:=by kernel_rfl
def c16:zad Tryz.prog pur Tryz.f16=some g16:=by kernel_rfl
def c20:zad Tryz.prog pur Tryz.f20=some g20:=by kernel_rfl
def c24:zad Tryz.prog pur Tryz.f24=some g24:=by kernel_rfl
def c28:zad Tryz.prog pur Tryz.f28=some g28:=by kernel_rfl
def c32:zad Tryz.prog pur Tryz.f32=some g32:=by kernel_rfl
def c36:zad Tryz.prog pur Tryz.f36=some g36:=by kernel_rfl
def c40:zad Tryz.prog pur Tryz.f40=some g40:=by kernel_rfl
def c44:zad Tryz.prog pur Tryz.f44=some g44:=by kernel_rfl
def c49:zad Tryz.prog pur Tryz.f49=some g49:=by kernel_rfl
def c53:zad Tryz.prog pur Tryz.f53=some g53:=by kernel_rfl
def c57:zad Tryz.prog pur Tryz.f57=some g57:=by kernel_rfl
def c61:zad Tryz.prog pur Tryz.f61=some g61:=by kernel_rfl
def c65:zad Tryz.prog pur Tryz.f65=some g65:=by kernel_rfl
def c69:zad Tryz.prog pur Tryz.f69=some g69:=by kernel_rfl
def c73:zad Tryz.prog pur Tryz.f73=some g73:=by kernel_rfl
def c77:zad Tryz.prog pur Tryz.f77=some g77:=by kernel_rfl
def c81:zad Tryz.prog pur Tryz.f81=some g81:=by kernel_rfl
def c85:zad Tryz.prog pur Tryz.f85=some g85:=by kernel_rfl
def c90:zad Tryz.prog pur Tryz.f90=some g90:=by kernel_rfl
def c94:zad Tryz.prog pur Tryz.f94=some g94:=by kernel_rfl
def c101:zad Tryz.prog pur Tryz.f101=some g101:=by kernel_rfl
def c108:zad Tryz.prog pur Tryz.f108=some g108:=by kernel_rfl
def c112:zad Tryz.prog pur Tryz.f112=some g112:=by kernel_rfl
def c116:zad Tryz.prog pur Tryz.f116=some g116:=by kernel_rfl
def c125:zad Tryz.prog pur Tryz.f125=some g125:=by kernel_rfl
def c132:zad Tryz.prog pur Tryz.f132=some g132:=by kernel_rfl
def c136:zad Tryz.prog pur Tryz.f136=some g136:=by kernel_rfl
def c141:zad Tryz.prog pur Tryz.f141=some zDi:=by kernel_rfl
def c145:zad Tryz.prog pur Tryz.f145=some g145:=by kernel_rfl
def c149:zad Tryz.prog pur Tryz.f149=some g149:=by kernel_rfl
def c153:zad Tryz.prog pur Tryz.f153=some g153:=by kernel_rfl
def c158:zad Tryz.prog pur Tryz.f158=some g158:=by kernel_rfl
def c164:zad Tryz.prog pur Tryz.f164=some g164:=by kernel_rfl
def c168:zad Tryz.prog pur Tryz.f168=some g168:=by kernel_rfl
def c173:zad Tryz.prog pur Tryz.f173=some g173:=by kernel_rfl
def c178:zad Tryz.prog pur Tryz.f178=some g178:=by kernel_rfl
def c182:zad Tryz.prog pur Tryz.f182=some g182:=by kernel_rfl
def c187:zad Tryz.prog pur Tryz.f187=some g187:=by kernel_rfl
def c199:zad Tryz.prog pur Tryz.f199=some g199:=by kernel_rfl
def c212:zad Tryz.prog pur Tryz.f212=some g212:=by kernel_rfl
def c226:zad Tryz.prog pur Tryz.f226=some g226:=by kernel_rfl
def c231:zad Tryz.prog pur Tryz.f231=some g231:=by kernel_rfl
def c235:zad Tryz.prog pur Tryz.f235=some g235:=by kernel_rfl
def c239:zad Tryz.prog pur Tryz.f239=some g239:=by kernel_rfl
def c243:zad Tryz.prog pur Tryz.f243=some g243:=by kernel_rfl
def c249:zad Tryz.prog pur Tryz.f249=some g249:=by kernel_rfl
def c255:zad Tryz.prog pur Tryz.f255=some g255:=by kernel_rfl
def c277:zad Tryz.prog pur Tryz.f277=some g277:=by kernel_rfl
def c286:zad Tryz.prog pur Tryz.f286=some g286:=by kernel_rfl
def c334:zad Tryz.prog pur Tryz.f334=some g334:=by kernel_rfl
end Go.Proofs.YtlmnmaginhebdaaGreatDoor
