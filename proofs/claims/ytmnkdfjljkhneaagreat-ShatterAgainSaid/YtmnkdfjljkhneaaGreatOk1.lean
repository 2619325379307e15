/- The resolved code is what the compiler makes of the program. Written by program. -/
import Derived.Test.YtmnkdfjljkhneaaGreatProg
import Derived.Test.YtmnkdfjljkhneaaGreatPr
import Derived.KernelRfl
set_option linter.all false
namespace Go.Proofs.YtmnkdfjljkhneaaGreat
open Go.Vse
open Go (BinOp IntKind UnOp)
set_option maxRecDepth 100000
theorem c4:zae Tryz.prog pur Tryz.f4=some g4:=by kernel_rfl
theorem c8:zae Tryz.prog pur Tryz.f8=some g8:=by kernel_rfl
theorem c16:zae Tryz.prog pur Tryz.f16=some g16:=by kernel_rfl
theorem c24:zae Tryz.prog pur Tryz.f24=some g24:=by kernel_rfl
theorem c28:Go.Vse.zae Go.Proofs.Tryz.prog (fun i=>pur i&& !(Nat.beq i 26)) Go.Proofs.Tryz.f28=some g28:=by kernel_rfl
theorem c32:Go.Vse.zae Go.Proofs.Tryz.prog (fun i=>pur i&& !(Nat.beq i 7)) Go.Proofs.Tryz.f32=some g32:=by kernel_rfl
theorem c44:zae Tryz.prog pur Tryz.f44=some g44:=by kernel_rfl
theorem c52:zae Tryz.prog pur Tryz.f52=some g52:=by kernel_rfl
theorem c56:zae Tryz.prog pur Tryz.f56=some g56:=by kernel_rfl
theorem c60:zae Tryz.prog pur Tryz.f60=some g60:=by kernel_rfl
theorem c64:zae Tryz.prog pur Tryz.f64=some g64:=by kernel_rfl
theorem c72:zae Tryz.prog pur Tryz.f72=some g72:=by kernel_rfl
theorem c76:zae Tryz.prog pur Tryz.f76=some g76:=by kernel_rfl
theorem c80:zae Tryz.prog pur Tryz.f80=some g80:=by kernel_rfl
theorem c84:zae Tryz.prog pur Tryz.f84=some g84:=by kernel_rfl
theorem c88:zae Tryz.prog pur Tryz.f88=some g88:=by kernel_rfl
theorem c92:zae Tryz.prog pur Tryz.f92=some g92:=by kernel_rfl
theorem c100:zae Tryz.prog pur Tryz.f100=some g100:=by kernel_rfl
theorem c104:zae Tryz.prog pur Tryz.f104=some g104:=by kernel_rfl
theorem c113:zae Tryz.prog pur Tryz.f113=some zvJ:=by kernel_rfl
theorem c121:zae Tryz.prog pur Tryz.f121=some g121:=by kernel_rfl
theorem c125:zae Tryz.prog pur Tryz.f125=some g125:=by kernel_rfl
theorem c129:zae Tryz.prog pur Tryz.f129=some zvN:=by kernel_rfl
theorem c138:zae Tryz.prog pur Tryz.f138=some g138:=by kernel_rfl
theorem c146:zae Tryz.prog pur Tryz.f146=some g146:=by kernel_rfl
theorem c150:zae Tryz.prog pur Tryz.f150=some g150:=by kernel_rfl
theorem c155:zae Tryz.prog pur Tryz.f155=some g155:=by kernel_rfl
theorem c159:zae Tryz.prog pur Tryz.f159=some g159:=by kernel_rfl
theorem c163:zae Tryz.prog pur Tryz.f163=some g163:=by kernel_rfl
theorem c167:zae Tryz.prog pur Tryz.f167=some g167:=by kernel_rfl
theorem c171:zae Tryz.prog pur Tryz.f171=some g171:=by kernel_rfl
theorem c175:zae Tryz.prog pur Tryz.f175=some g175:=by kernel_rfl
theorem c179:zae Tryz.prog pur Tryz.f179=some g179:=by kernel_rfl
theorem c183:zae Tryz.prog pur Tryz.f183=some g183:=by kernel_rfl
end Go.Proofs.YtmnkdfjljkhneaaGreat
