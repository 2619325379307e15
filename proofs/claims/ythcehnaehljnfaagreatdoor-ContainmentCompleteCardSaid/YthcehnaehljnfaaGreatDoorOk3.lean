/- The resolved code is what the compiler makes of the program. Written by program. -/
import Derived.Test.YthcehnaehljnfaaGreatDoorProg
import Derived.Test.YthcehnaehljnfaaGreatDoorPr
import Derived.KernelRfl
set_option linter.all false
namespace Go.Proofs.YthcehnaehljnfaaGreatDoor
open Go.Vse
open Go (BinOp IntKind UnOp)
set_option maxRecDepth 100000
def c6:zad Tryz.prog pur Tryz.f6=some g6:=by kernel_rfl
def c10:zad Tryz.prog pur Tryz.f10=some g10:=by kernel_rfl
def c14:zad Tryz.prog pur Tryz.f14=some g14:=by kernel_rfl
def c18:zad Tryz.prog pur Tryz.f18=some g18:=by kernel_rfl
def c22:zad Tryz.prog pur Tryz.f22=some g22:=by kernel_rfl
def c26:zad Tryz.prog pur Tryz.f26=some g26:=by kernel_rfl
def c30:zad Tryz.prog pur Tryz.f30=some g30:=by kernel_rfl
def c34:zad Tryz.prog pur Tryz.f34=some g34:=by kernel_rfl
def c38:zad Tryz.prog pur Tryz.f38=some g38:=by kernel_rfl
def c42:zad Tryz.prog pur Tryz.f42=some g42:=by kernel_rfl
def c46:zad Tryz.prog pur Tryz.f46=some g46:=by kernel_rfl
def c50:zad Tryz.prog pur Tryz.f50=some g50:=by kernel_rfl
def c54:zad Tryz.prog pur Tryz.f54=some g54:=by kernel_rfl
def c58:zad Tryz.prog pur Tryz.f58=some g58:=by kernel_rfl
def c62:zad Tryz.prog pur Tryz.f62=some g62:=by kernel_rfl
def c66:zad Tryz.prog pur Tryz.f66=some g66:=by kernel_rfl
def c71:zad Tryz.prog pur Tryz.f71=some g71:=by kernel_rfl
def c75:zad Tryz.prog pur Tryz.f75=some g75:=by kernel_rfl
def c79:zad Tryz.prog pur Tryz.f79=some g79:=by kernel_rfl
def c83:zad Tryz.prog pur Tryz.f83=some g83:=by kernel_rfl
def c88:zad Tryz.prog pur Tryz.f88=some g88:=by kernel_rfl
def c92:zad Tryz.prog pur Tryz.f92=some g92:=by kernel_rfl
def c96:zad Tryz.prog pur Tryz.f96=some g96:=by kernel_rfl
def c100:zad Tryz.prog pur Tryz.f100=some g100:=by kernel_rfl
def c104:zad Tryz.prog pur Tryz.f104=some g104:=by kernel_rfl
def c108:zad Tryz.prog pur Tryz.f108=some g108:=by kernel_rfl
def c112:zad Tryz.prog pur Tryz.f112=some g112:=by kernel_rfl
def c116:zad Tryz.prog pur Tryz.f116=some zjl:=by kernel_rfl
def c120:zad Tryz.prog pur Tryz.f120=some zDl:=by kernel_rfl
def c124:zad Tryz.prog pur Tryz.f124=some zpe:=by kernel_rfl
def c135:zad Tryz.prog pur Tryz.f135=some zDo:=by kernel_rfl
def c139:zad Tryz.prog pur Tryz.f139=some zDs:=by kernel_rfl
def c144:zad Tryz.prog pur Tryz.f144=some g144:=by kernel_rfl
def c148:zad Tryz.prog pur Tryz.f148=some g148:=by kernel_rfl
def c155:zad Tryz.prog pur Tryz.f155=some g155:=by kernel_rfl
def c159:zad Tryz.prog pur Tryz.f159=some g159:=by kernel_rfl
def c164:zad Tryz.prog pur Tryz.f164=some g164:=by kernel_rfl
def c168:zad Tryz.prog pur Tryz.f168=some g168:=by kernel_rfl
def c173:zad Tryz.prog pur Tryz.f173=some g173:=by kernel_rfl
def c177:zad Tryz.prog pur Tryz.f177=some g177:=by kernel_rfl
def c181:zad Tryz.prog pur Tryz.f181=some zkr:=by kernel_rfl
def c186:zad Tryz.prog pur Tryz.f186=some zix:=by kernel_rfl
def c191:zad Tryz.prog pur Tryz.f191=some zph:=by kernel_rfl
def c201:zad Tryz.prog pur Tryz.f201=some g201:=by kernel_rfl
def c205:zad Tryz.prog pur Tryz.f205=some g205:=by kernel_rfl
def c217:zad Tryz.prog pur Tryz.f217=some g217:=by kernel_rfl
def c225:zad Tryz.prog pur Tryz.f225=some g225:=by kernel_rfl
def c230:zad Tryz.prog pur Tryz.f230=some g230:=by kernel_rfl
def c235:zad Tryz.prog pur Tryz.f235=some zDE:=by kernel_rfl
def c241:zad Tryz.prog pur Tryz.f241=some g241:=by kernel_rfl
def c251:zad Tryz.prog pur Tryz.f251=some g251:=by kernel_rfl
def c256:zad Tryz.prog pur Tryz.f256=some zDK:=by kernel_rfl
def c265:zad Tryz.prog pur Tryz.f265=some g265:=by kernel_rfl
def c275:zad Tryz.prog pur Tryz.f275=some g275:=by kernel_rfl
end Go.Proofs.YthcehnaehljnfaaGreatDoor
