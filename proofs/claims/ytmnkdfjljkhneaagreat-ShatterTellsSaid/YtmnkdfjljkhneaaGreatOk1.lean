/- The resolved code is what the compiler makes of the program. Written by program. -/
import Derived.Test.YtmnkdfjljkhneaaGreatProg
import Derived.Test.YtmnkdfjljkhneaaGreatPr
import Derived.KernelRfl
set_option linter.all false
namespace Go.Proofs.YtmnkdfjljkhneaaGreat
open Go.Vse
open Go (BinOp IntKind UnOp)
set_option maxRecDepth 100000
def c4:zah Tryz.prog pur Tryz.f4=some g4:=by kernel_rfl
def c8:zah Tryz.prog pur Tryz.f8=some g8:=by kernel_rfl
def c12:zah Tryz.prog pur Tryz.f12=some g12:=by kernel_rfl
def c16:zah Tryz.prog pur Tryz.f16=some g16:=by kernel_rfl
def c20:zah Tryz.prog pur Tryz.f20=some g20:=by kernel_rfl
def c24:zah Tryz.prog pur Tryz.f24=some g24:=by kernel_rfl
def c28:Go.Vse.zah Go.Proofs.Tryz.prog (fun i=>pur i&& !(Nat.beq i 26)) Go.Proofs.Tryz.f28=some g28:=by kernel_rfl
def c32:Go.Vse.zah Go.Proofs.Tryz.prog (fun i=>pur i&& !(Nat.beq i 7)) Go.Proofs.Tryz.f32=some g32:=by kernel_rfl
def c36:zah Tryz.prog pur Tryz.f36=some g36:=by kernel_rfl
def c40:zah Tryz.prog pur Tryz.f40=some g40:=by kernel_rfl
def c44:zah Tryz.prog pur Tryz.f44=some g44:=by kernel_rfl
def c48:zah Tryz.prog pur Tryz.f48=some g48:=by kernel_rfl
def c52:zah Tryz.prog pur Tryz.f52=some g52:=by kernel_rfl
def c56:zah Tryz.prog pur Tryz.f56=some g56:=by kernel_rfl
def c60:zah Tryz.prog pur Tryz.f60=some g60:=by kernel_rfl
def c64:zah Tryz.prog pur Tryz.f64=some g64:=by kernel_rfl
def c68:zah Tryz.prog pur Tryz.f68=some g68:=by kernel_rfl
def c72:zah Tryz.prog pur Tryz.f72=some g72:=by kernel_rfl
def c76:zah Tryz.prog pur Tryz.f76=some g76:=by kernel_rfl
def c80:zah Tryz.prog pur Tryz.f80=some g80:=by kernel_rfl
def c84:zah Tryz.prog pur Tryz.f84=some g84:=by kernel_rfl
def c88:zah Tryz.prog pur Tryz.f88=some g88:=by kernel_rfl
def c92:zah Tryz.prog pur Tryz.f92=some g92:=by kernel_rfl
def c96:zah Tryz.prog pur Tryz.f96=some g96:=by kernel_rfl
def c100:zah Tryz.prog pur Tryz.f100=some g100:=by kernel_rfl
def c104:zah Tryz.prog pur Tryz.f104=some g104:=by kernel_rfl
def c113:zah Tryz.prog pur Tryz.f113=some zys:=by kernel_rfl
def c117:zah Tryz.prog pur Tryz.f117=some zyy:=by kernel_rfl
def c129:zah Tryz.prog pur Tryz.f129=some zyA:=by kernel_rfl
def c134:zah Tryz.prog pur Tryz.f134=some zyG:=by kernel_rfl
def c138:zah Tryz.prog pur Tryz.f138=some g138:=by kernel_rfl
def c155:zah Tryz.prog pur Tryz.f155=some g155:=by kernel_rfl
def c159:zah Tryz.prog pur Tryz.f159=some g159:=by kernel_rfl
def c163:zah Tryz.prog pur Tryz.f163=some g163:=by kernel_rfl
def c167:zah Tryz.prog pur Tryz.f167=some g167:=by kernel_rfl
def c171:zah Tryz.prog pur Tryz.f171=some g171:=by kernel_rfl
def c175:zah Tryz.prog pur Tryz.f175=some g175:=by kernel_rfl
def c179:zah Tryz.prog pur Tryz.f179=some g179:=by kernel_rfl
def c183:zah Tryz.prog pur Tryz.f183=some g183:=by kernel_rfl
end Go.Proofs.YtmnkdfjljkhneaaGreat
