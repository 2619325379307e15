/- The resolved code is what the compiler makes of the program. Written by program. -/
import Derived.Test.YtmnkdfjljkhneaaGreatProg
import Derived.Test.YtmnkdfjljkhneaaGreatPr
import Derived.KernelRfl
set_option linter.all false
namespace Go.Proofs.YtmnkdfjljkhneaaGreat
open Go.Vse
open Go (BinOp IntKind UnOp)
set_option maxRecDepth 100000
theorem c6:Go.Vse.zae Go.Proofs.Tryz.prog (fun i=>pur i&& !(Nat.beq i 23)) Go.Proofs.Tryz.f6=some g6:=by kernel_rfl
theorem c18:zae Tryz.prog pur Tryz.f18=some g18:=by kernel_rfl
theorem c22:zae Tryz.prog pur Tryz.f22=some g22:=by kernel_rfl
theorem c26:zae Tryz.prog pur Tryz.f26=some g26:=by kernel_rfl
theorem c34:zae Tryz.prog pur Tryz.f34=some g34:=by kernel_rfl
theorem c38:Go.Vse.zae Go.Proofs.Tryz.prog (fun i=>pur i&& !(Nat.beq i 25)) Go.Proofs.Tryz.f38=some g38:=by kernel_rfl
theorem c42:zae Tryz.prog pur Tryz.f42=some g42:=by kernel_rfl
theorem c46:zae Tryz.prog pur Tryz.f46=some g46:=by kernel_rfl
theorem c50:zae Tryz.prog pur Tryz.f50=some g50:=by kernel_rfl
theorem c54:zae Tryz.prog pur Tryz.f54=some g54:=by kernel_rfl
theorem c58:zae Tryz.prog pur Tryz.f58=some g58:=by kernel_rfl
theorem c62:zae Tryz.prog pur Tryz.f62=some g62:=by kernel_rfl
theorem c66:zae Tryz.prog pur Tryz.f66=some g66:=by kernel_rfl
theorem c74:zae Tryz.prog pur Tryz.f74=some g74:=by kernel_rfl
theorem c78:zae Tryz.prog pur Tryz.f78=some g78:=by kernel_rfl
theorem c82:zae Tryz.prog pur Tryz.f82=some g82:=by kernel_rfl
theorem c86:zae Tryz.prog pur Tryz.f86=some g86:=by kernel_rfl
theorem c90:zae Tryz.prog pur Tryz.f90=some g90:=by kernel_rfl
theorem c94:zae Tryz.prog pur Tryz.f94=some g94:=by kernel_rfl
theorem c102:zae Tryz.prog pur Tryz.f102=some g102:=by kernel_rfl
theorem c115:zae Tryz.prog pur Tryz.f115=some zvL:=by kernel_rfl
theorem c119:zae Tryz.prog pur Tryz.f119=some g119:=by kernel_rfl
theorem c123:zae Tryz.prog pur Tryz.f123=some g123:=by kernel_rfl
theorem c127:zae Tryz.prog pur Tryz.f127=some g127:=by kernel_rfl
theorem c132:zae Tryz.prog pur Tryz.f132=some zvQ:=by kernel_rfl
theorem c136:zae Tryz.prog pur Tryz.f136=some g136:=by kernel_rfl
theorem c140:zae Tryz.prog pur Tryz.f140=some g140:=by kernel_rfl
theorem c144:zae Tryz.prog pur Tryz.f144=some zvR:=by kernel_rfl
theorem c148:zae Tryz.prog pur Tryz.f148=some g148:=by kernel_rfl
theorem c153:zae Tryz.prog pur Tryz.f153=some g153:=by kernel_rfl
theorem c157:zae Tryz.prog pur Tryz.f157=some zvW:=by kernel_rfl
theorem c161:zae Tryz.prog pur Tryz.f161=some g161:=by kernel_rfl
theorem c165:zae Tryz.prog pur Tryz.f165=some g165:=by kernel_rfl
theorem c169:zae Tryz.prog pur Tryz.f169=some g169:=by kernel_rfl
theorem c173:zae Tryz.prog pur Tryz.f173=some g173:=by kernel_rfl
theorem c177:zae Tryz.prog pur Tryz.f177=some g177:=by kernel_rfl
theorem c181:zae Tryz.prog pur Tryz.f181=some g181:=by kernel_rfl
end Go.Proofs.YtmnkdfjljkhneaaGreat
