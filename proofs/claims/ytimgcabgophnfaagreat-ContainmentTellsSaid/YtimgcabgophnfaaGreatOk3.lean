/- The resolved code is what the compiler makes of the program. Written by program. -/
import Derived.Test.YtimgcabgophnfaaGreatProg
import Derived.Test.YtimgcabgophnfaaGreatPr
import Derived.KernelRfl
set_option linter.all false
namespace Go.Proofs.YtimgcabgophnfaaGreat
open Go.Vse
open Go (BinOp IntKind UnOp)
set_option maxRecDepth 100000
theorem c6:zah Tryz.prog pur Tryz.f6=some g6:=by kernel_rfl
theorem c14:zah Tryz.prog pur Tryz.f14=some g14:=by kernel_rfl
theorem c18:zah Tryz.prog pur Tryz.f18=some g18:=by kernel_rfl
theorem c22:zah Tryz.prog pur Tryz.f22=some g22:=by kernel_rfl
theorem c26:zah Tryz.prog pur Tryz.f26=some g26:=by kernel_rfl
theorem c30:zah Tryz.prog pur Tryz.f30=some g30:=by kernel_rfl
theorem c34:zah Tryz.prog pur Tryz.f34=some g34:=by kernel_rfl
theorem c38:zah Tryz.prog pur Tryz.f38=some g38:=by kernel_rfl
theorem c42:zah Tryz.prog pur Tryz.f42=some g42:=by kernel_rfl
theorem c46:zah Tryz.prog pur Tryz.f46=some g46:=by kernel_rfl
theorem c50:zah Tryz.prog pur Tryz.f50=some g50:=by kernel_rfl
theorem c54:zah Tryz.prog pur Tryz.f54=some g54:=by kernel_rfl
theorem c58:zah Tryz.prog pur Tryz.f58=some g58:=by kernel_rfl
theorem c62:zah Tryz.prog pur Tryz.f62=some g62:=by kernel_rfl
theorem c66:zah Tryz.prog pur Tryz.f66=some g66:=by kernel_rfl
theorem c70:zah Tryz.prog pur Tryz.f70=some g70:=by kernel_rfl
theorem c74:zah Tryz.prog pur Tryz.f74=some g74:=by kernel_rfl
theorem c78:zah Tryz.prog pur Tryz.f78=some g78:=by kernel_rfl
theorem c82:zah Tryz.prog pur Tryz.f82=some g82:=by kernel_rfl
theorem c86:zah Tryz.prog pur Tryz.f86=some g86:=by kernel_rfl
theorem c90:zah Tryz.prog pur Tryz.f90=some g90:=by kernel_rfl
theorem c94:zah Tryz.prog pur Tryz.f94=some g94:=by kernel_rfl
theorem c98:zah Tryz.prog pur Tryz.f98=some g98:=by kernel_rfl
theorem c102:zah Tryz.prog pur Tryz.f102=some zzO:=by kernel_rfl
theorem c106:zah Tryz.prog pur Tryz.f106=some g106:=by kernel_rfl
theorem c110:zah Tryz.prog pur Tryz.f110=some g110:=by kernel_rfl
theorem c114:zah Tryz.prog pur Tryz.f114=some zzY:=by kernel_rfl
theorem c118:zah Tryz.prog pur Tryz.f118=some zz2:=by kernel_rfl
theorem c122:zah Tryz.prog pur Tryz.f122=some zz8:=by kernel_rfl
theorem c126:zah Tryz.prog pur Tryz.f126=some zAc:=by kernel_rfl
theorem c131:zah Tryz.prog pur Tryz.f131=some zAj:=by kernel_rfl
theorem c139:zah Tryz.prog pur Tryz.f139=some zAk:=by kernel_rfl
theorem c148:zah Tryz.prog pur Tryz.f148=some g148:=by kernel_rfl
theorem c152:zah Tryz.prog pur Tryz.f152=some zAs:=by kernel_rfl
theorem c156:zah Tryz.prog pur Tryz.f156=some g156:=by kernel_rfl
theorem c160:zah Tryz.prog pur Tryz.f160=some g160:=by kernel_rfl
theorem c164:zah Tryz.prog pur Tryz.f164=some g164:=by kernel_rfl
theorem c168:zah Tryz.prog pur Tryz.f168=some g168:=by kernel_rfl
theorem c172:zah Tryz.prog pur Tryz.f172=some g172:=by kernel_rfl
theorem c176:zah Tryz.prog pur Tryz.f176=some g176:=by kernel_rfl
end Go.Proofs.YtimgcabgophnfaaGreat
