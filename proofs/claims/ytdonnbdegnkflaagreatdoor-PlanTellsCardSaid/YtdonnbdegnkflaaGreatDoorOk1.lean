/- The resolved code is what the compiler makes of the program. Written by program. -/
import Derived.Test.YtdonnbdegnkflaaGreatDoorProg
import Derived.Test.YtdonnbdegnkflaaGreatDoorPr
import Derived.KernelRfl
set_option linter.all false
namespace Go.Proofs.YtdonnbdegnkflaaGreatDoor
open Go.Vse
open Go (BinOp IntKind UnOp)
set_option maxRecDepth 100000
def c4:zad Tryz.prog pur Tryz.f4=some g4:=by kernel_rfl
def c8:zad Tryz.prog pur Tryz.f8=some g8:=by kernel_rfl
def c12:zad Tryz.prog pur Tryz.f12=some g12:=by kernel_rfl
def c16:zad Tryz.prog pur Tryz.f16=some g16:=by kernel_rfl
def c20:zad Tryz.prog pur Tryz.f20=some g20:=by kernel_rfl
def c24:zad Tryz.prog pur Tryz.f24=some g24:=by kernel_rfl
def c28:zad Tryz.prog pur Tryz.f28=some g28:=by kernel_rfl
def c32:zad Tryz.prog pur Tryz.f32=some g32:=by kernel_rfl
def c36:zad Tryz.prog pur Tryz.f36=some g36:=by kernel_rfl
def c40:zad Tryz.prog pur Tryz.f40=some g40:=by kernel_rfl
def c44:zad Tryz.prog pur Tryz.f44=some g44:=by kernel_rfl
def c48:zad Tryz.prog pur Tryz.f48=some g48:=by kernel_rfl
def c52:zad Tryz.prog pur Tryz.f52=some g52:=by kernel_rfl
def c56:zad Tryz.prog pur Tryz.f56=some g56:=by kernel_rfl
def c60:zad Tryz.prog pur Tryz.f60=some g60:=by kernel_rfl
def c65:zad Tryz.prog pur Tryz.f65=some g65:=by kernel_rfl
def c69:zad Tryz.prog pur Tryz.f69=some g69:=by kernel_rfl
def c73:zad Tryz.prog pur Tryz.f73=some g73:=by kernel_rfl
def c77:zad Tryz.prog pur Tryz.f77=some g77:=by kernel_rfl
def c81:zad Tryz.prog pur Tryz.f81=some g81:=by kernel_rfl
def c85:zad Tryz.prog pur Tryz.f85=some g85:=by kernel_rfl
def c89:zad Tryz.prog pur Tryz.f89=some g89:=by kernel_rfl
def c93:zad Tryz.prog pur Tryz.f93=some g93:=by kernel_rfl
def c104:zad Tryz.prog pur Tryz.f104=some zFM:=by kernel_rfl
def c109:zad Tryz.prog pur Tryz.f109=some g109:=by kernel_rfl
def c114:zad Tryz.prog pur Tryz.f114=some g114:=by kernel_rfl
def c118:zad Tryz.prog pur Tryz.f118=some g118:=by kernel_rfl
def c125:zad Tryz.prog pur Tryz.f125=some g125:=by kernel_rfl
def c132:zad Tryz.prog pur Tryz.f132=some g132:=by kernel_rfl
def c136:zad Tryz.prog pur Tryz.f136=some g136:=by kernel_rfl
def c140:zad Tryz.prog pur Tryz.f140=some g140:=by kernel_rfl
def c149:zad Tryz.prog pur Tryz.f149=some g149:=by kernel_rfl
def c156:zad Tryz.prog pur Tryz.f156=some g156:=by kernel_rfl
def c160:zad Tryz.prog pur Tryz.f160=some g160:=by kernel_rfl
def c164:zad Tryz.prog pur Tryz.f164=some zFT:=by kernel_rfl
def c174:zad Tryz.prog pur Tryz.f174=some g174:=by kernel_rfl
def c179:zad Tryz.prog pur Tryz.f179=some g179:=by kernel_rfl
def c186:zad Tryz.prog pur Tryz.f186=some g186:=by kernel_rfl
def c190:zad Tryz.prog pur Tryz.f190=some g190:=by kernel_rfl
def c194:zad Tryz.prog pur Tryz.f194=some g194:=by kernel_rfl
def c199:zad Tryz.prog pur Tryz.f199=some g199:=by kernel_rfl
def c204:zad Tryz.prog pur Tryz.f204=some g204:=by kernel_rfl
def c208:zad Tryz.prog pur Tryz.f208=some g208:=by kernel_rfl
def c221:zad Tryz.prog pur Tryz.f221=some g221:=by kernel_rfl
def c234:zad Tryz.prog pur Tryz.f234=some g234:=by kernel_rfl
def c248:zad Tryz.prog pur Tryz.f248=some g248:=by kernel_rfl
def c253:zad Tryz.prog pur Tryz.f253=some g253:=by kernel_rfl
def c257:zad Tryz.prog pur Tryz.f257=some g257:=by kernel_rfl
def c261:zad Tryz.prog pur Tryz.f261=some g261:=by kernel_rfl
def c268:zad Tryz.prog pur Tryz.f268=some g268:=by kernel_rfl
def c273:zad Tryz.prog pur Tryz.f273=some g273:=by kernel_rfl
def c295:zad Tryz.prog pur Tryz.f295=some g295:=by kernel_rfl
def c349:zad Tryz.prog pur Tryz.f349=some g349:=by kernel_rfl
end Go.Proofs.YtdonnbdegnkflaaGreatDoor
