/- The resolved code is what the compiler makes of the program. Written by program. -/
import Derived.Test.YtimgcabgophnfaaGreatProg
import Derived.Test.YtimgcabgophnfaaGreatPr
import Derived.KernelRfl
set_option linter.all false
namespace Go.Proofs.YtimgcabgophnfaaGreat
open Go.Vse
open Go (BinOp IntKind UnOp)
set_option maxRecDepth 100000
theorem c5:zah Tryz.prog pur Tryz.f5=some g5:=by kernel_rfl
theorem c9:zah Tryz.prog pur Tryz.f9=some g9:=by kernel_rfl
theorem c13:zah Tryz.prog pur Tryz.f13=some g13:=by kernel_rfl
theorem c17:zah Tryz.prog pur Tryz.f17=some g17:=by kernel_rfl
theorem c21:zah Tryz.prog pur Tryz.f21=some g21:=by kernel_rfl
theorem c25:zah Tryz.prog pur Tryz.f25=some g25:=by kernel_rfl
theorem c29:zah Tryz.prog pur Tryz.f29=some g29:=by kernel_rfl
theorem c33:zah Tryz.prog pur Tryz.f33=some g33:=by kernel_rfl
theorem c37:zah Tryz.prog pur Tryz.f37=some g37:=by kernel_rfl
theorem c41:zah Tryz.prog pur Tryz.f41=some g41:=by kernel_rfl
theorem c45:zah Tryz.prog pur Tryz.f45=some g45:=by kernel_rfl
theorem c49:zah Tryz.prog pur Tryz.f49=some g49:=by kernel_rfl
theorem c53:zah Tryz.prog pur Tryz.f53=some g53:=by kernel_rfl
theorem c57:zah Tryz.prog pur Tryz.f57=some g57:=by kernel_rfl
theorem c61:zah Tryz.prog pur Tryz.f61=some g61:=by kernel_rfl
theorem c65:zah Tryz.prog pur Tryz.f65=some g65:=by kernel_rfl
theorem c69:zah Tryz.prog pur Tryz.f69=some g69:=by kernel_rfl
theorem c73:zah Tryz.prog pur Tryz.f73=some g73:=by kernel_rfl
theorem c77:zah Tryz.prog pur Tryz.f77=some g77:=by kernel_rfl
theorem c81:zah Tryz.prog pur Tryz.f81=some g81:=by kernel_rfl
theorem c85:zah Tryz.prog pur Tryz.f85=some g85:=by kernel_rfl
theorem c89:zah Tryz.prog pur Tryz.f89=some g89:=by kernel_rfl
theorem c93:zah Tryz.prog pur Tryz.f93=some g93:=by kernel_rfl
theorem c97:zah Tryz.prog pur Tryz.f97=some g97:=by kernel_rfl
theorem c101:zah Tryz.prog pur Tryz.f101=some zzN:=by kernel_rfl
theorem c105:zah Tryz.prog pur Tryz.f105=some g105:=by kernel_rfl
theorem c109:zah Tryz.prog pur Tryz.f109=some g109:=by kernel_rfl
theorem c113:zah Tryz.prog pur Tryz.f113=some zzV:=by kernel_rfl
theorem c117:zah Tryz.prog pur Tryz.f117=some zz0:=by kernel_rfl
theorem c121:zah Tryz.prog pur Tryz.f121=some zz7:=by kernel_rfl
theorem c125:zah Tryz.prog pur Tryz.f125=some zAb:=by kernel_rfl
theorem c130:zah Tryz.prog pur Tryz.f130=some zAi:=by kernel_rfl
theorem c134:zah Tryz.prog pur Tryz.f134=some g134:=by kernel_rfl
theorem c138:zah Tryz.prog pur Tryz.f138=some g138:=by kernel_rfl
theorem c142:zah Tryz.prog pur Tryz.f142=some zAo:=by kernel_rfl
theorem c146:zah Tryz.prog pur Tryz.f146=some zAr:=by kernel_rfl
theorem c151:zah Tryz.prog pur Tryz.f151=some g151:=by kernel_rfl
theorem c155:zah Tryz.prog pur Tryz.f155=some g155:=by kernel_rfl
theorem c159:zah Tryz.prog pur Tryz.f159=some g159:=by kernel_rfl
theorem c163:zah Tryz.prog pur Tryz.f163=some g163:=by kernel_rfl
theorem c167:zah Tryz.prog pur Tryz.f167=some g167:=by kernel_rfl
theorem c171:zah Tryz.prog pur Tryz.f171=some g171:=by kernel_rfl
theorem c175:zah Tryz.prog pur Tryz.f175=some g175:=by kernel_rfl
end Go.Proofs.YtimgcabgophnfaaGreat
