/- The resolved code is what the compiler makes of the program. Written by program. -/
import Derived.Test.YtflgmemhalhdbaaGreatDoorProg
import Derived.Test.YtflgmemhalhdbaaGreatDoorPr
import Derived.KernelRfl
set_option linter.all false
namespace Go.Proofs.YtflgmemhalhdbaaGreatDoor
open Go.Vse
open Go (BinOp IntKind UnOp)
set_option maxRecDepth 100000
def c4:zae Tryz.prog pur Tryz.f4=some g4:=by kernel_rfl
def c8:zae Tryz.prog pur Tryz.f8=some g8:=by kernel_rfl
def c12:zae Tryz.prog pur Tryz.f12=some g12:=by kernel_rfl
def c16:zae Tryz.prog pur Tryz.f16=some g16:=by kernel_rfl
def c20:zae Tryz.prog pur Tryz.f20=some g20:=by kernel_rfl
def c24:zae Tryz.prog pur Tryz.f24=some g24:=by kernel_rfl
def c28:zae Tryz.prog pur Tryz.f28=some g28:=by kernel_rfl
def c32:zae Tryz.prog pur Tryz.f32=some g32:=by kernel_rfl
def c36:zae Tryz.prog pur Tryz.f36=some g36:=by kernel_rfl
def c40:zae Tryz.prog pur Tryz.f40=some g40:=by kernel_rfl
def c44:zae Tryz.prog pur Tryz.f44=some g44:=by kernel_rfl
def c48:zae Tryz.prog pur Tryz.f48=some g48:=by kernel_rfl
def c52:zae Tryz.prog pur Tryz.f52=some g52:=by kernel_rfl
def c56:zae Tryz.prog pur Tryz.f56=some g56:=by kernel_rfl
def c60:zae Tryz.prog pur Tryz.f60=some g60:=by kernel_rfl
def c64:zae Tryz.prog pur Tryz.f64=some g64:=by kernel_rfl
def c68:zae Tryz.prog pur Tryz.f68=some g68:=by kernel_rfl
def c72:zae Tryz.prog pur Tryz.f72=some g72:=by kernel_rfl
def c76:zae Tryz.prog pur Tryz.f76=some g76:=by kernel_rfl
def c80:zae Tryz.prog pur Tryz.f80=some g80:=by kernel_rfl
def c84:zae Tryz.prog pur Tryz.f84=some g84:=by kernel_rfl
def c88:zae Tryz.prog pur Tryz.f88=some g88:=by kernel_rfl
def c92:zae Tryz.prog pur Tryz.f92=some g92:=by kernel_rfl
def c96:zae Tryz.prog pur Tryz.f96=some g96:=by kernel_rfl
def c100:zae Tryz.prog pur Tryz.f100=some g100:=by kernel_rfl
def c104:zae Tryz.prog pur Tryz.f104=some zy4:=by kernel_rfl
def c108:zae Tryz.prog pur Tryz.f108=some zy7:=by kernel_rfl
def c112:zae Tryz.prog pur Tryz.f112=some zzc:=by kernel_rfl
def c116:zae Tryz.prog pur Tryz.f116=some g116:=by kernel_rfl
def c124:zae Tryz.prog pur Tryz.f124=some zzj:=by kernel_rfl
def c128:zae Tryz.prog pur Tryz.f128=some g128:=by kernel_rfl
def c132:zae Tryz.prog pur Tryz.f132=some zzs:=by kernel_rfl
def c137:zae Tryz.prog pur Tryz.f137=some g137:=by kernel_rfl
def c145:zae Tryz.prog pur Tryz.f145=some zzD:=by kernel_rfl
def c149:zae Tryz.prog pur Tryz.f149=some zzJ:=by kernel_rfl
def c158:zae Tryz.prog pur Tryz.f158=some g158:=by kernel_rfl
def c162:zae Tryz.prog pur Tryz.f162=some g162:=by kernel_rfl
def c166:zae Tryz.prog pur Tryz.f166=some g166:=by kernel_rfl
end Go.Proofs.YtflgmemhalhdbaaGreatDoor
