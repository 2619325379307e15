/- The resolved code is what the compiler makes of the program. Written by program. -/
import Derived.Test.YtimgcabgophnfaaGreatProg
import Derived.Test.YtimgcabgophnfaaGreatPr
import Derived.KernelRfl
set_option linter.all false
namespace Go.Proofs.YtimgcabgophnfaaGreat
open Go.Vse
open Go (BinOp IntKind UnOp)
set_option maxRecDepth 100000
theorem c4:zah Tryz.prog pur Tryz.f4=some g4:=by kernel_rfl
theorem c8:zah Tryz.prog pur Tryz.f8=some g8:=by kernel_rfl
theorem c12:zah Tryz.prog pur Tryz.f12=some g12:=by kernel_rfl
theorem c16:zah Tryz.prog pur Tryz.f16=some g16:=by kernel_rfl
theorem c20:zah Tryz.prog pur Tryz.f20=some g20:=by kernel_rfl
theorem c24:zah Tryz.prog pur Tryz.f24=some g24:=by kernel_rfl
theorem c28:zah Tryz.prog pur Tryz.f28=some g28:=by kernel_rfl
theorem c32:zah Tryz.prog pur Tryz.f32=some g32:=by kernel_rfl
theorem c36:zah Tryz.prog pur Tryz.f36=some g36:=by kernel_rfl
theorem c40:zah Tryz.prog pur Tryz.f40=some g40:=by kernel_rfl
theorem c44:zah Tryz.prog pur Tryz.f44=some g44:=by kernel_rfl
theorem c48:zah Tryz.prog pur Tryz.f48=some g48:=by kernel_rfl
theorem c52:zah Tryz.prog pur Tryz.f52=some g52:=by kernel_rfl
theorem c56:zah Tryz.prog pur Tryz.f56=some g56:=by kernel_rfl
theorem c60:zah Tryz.prog pur Tryz.f60=some g60:=by kernel_rfl
theorem c64:zah Tryz.prog pur Tryz.f64=some g64:=by kernel_rfl
theorem c68:zah Tryz.prog pur Tryz.f68=some g68:=by kernel_rfl
theorem c72:zah Tryz.prog pur Tryz.f72=some g72:=by kernel_rfl
theorem c76:zah Tryz.prog pur Tryz.f76=some g76:=by kernel_rfl
theorem c80:zah Tryz.prog pur Tryz.f80=some g80:=by kernel_rfl
theorem c84:zah Tryz.prog pur Tryz.f84=some g84:=by kernel_rfl
theorem c88:zah Tryz.prog pur Tryz.f88=some g88:=by kernel_rfl
theorem c92:zah Tryz.prog pur Tryz.f92=some g92:=by kernel_rfl
theorem c96:zah Tryz.prog pur Tryz.f96=some g96:=by kernel_rfl
theorem c100:zah Tryz.prog pur Tryz.f100=some zzM:=by kernel_rfl
theorem c104:zah Tryz.prog pur Tryz.f104=some zzQ:=by kernel_rfl
theorem c108:zah Tryz.prog pur Tryz.f108=some g108:=by kernel_rfl
theorem c112:zah Tryz.prog pur Tryz.f112=some zzT:=by kernel_rfl
theorem c116:zah Tryz.prog pur Tryz.f116=some zzZ:=by kernel_rfl
theorem c120:zah Tryz.prog pur Tryz.f120=some zz3:=by kernel_rfl
theorem c124:zah Tryz.prog pur Tryz.f124=some zAa:=by kernel_rfl
theorem c129:zah Tryz.prog pur Tryz.f129=some zAh:=by kernel_rfl
theorem c133:zah Tryz.prog pur Tryz.f133=some g133:=by kernel_rfl
theorem c137:zah Tryz.prog pur Tryz.f137=some g137:=by kernel_rfl
theorem c141:zah Tryz.prog pur Tryz.f141=some zAn:=by kernel_rfl
theorem c145:zah Tryz.prog pur Tryz.f145=some zAq:=by kernel_rfl
theorem c150:zah Tryz.prog pur Tryz.f150=some g150:=by kernel_rfl
theorem c154:zah Tryz.prog pur Tryz.f154=some g154:=by kernel_rfl
theorem c158:zah Tryz.prog pur Tryz.f158=some g158:=by kernel_rfl
theorem c162:zah Tryz.prog pur Tryz.f162=some g162:=by kernel_rfl
theorem c166:zah Tryz.prog pur Tryz.f166=some g166:=by kernel_rfl
theorem c170:zah Tryz.prog pur Tryz.f170=some g170:=by kernel_rfl
theorem c174:zah Tryz.prog pur Tryz.f174=some g174:=by kernel_rfl
theorem c178:zah Tryz.prog pur Tryz.f178=some g178:=by kernel_rfl
end Go.Proofs.YtimgcabgophnfaaGreat
