/- The resolved code is what the compiler makes of the program. Written by program. -/
import Derived.Test.YtmnkdfjljkhneaaGreatProg
import Derived.Test.YtmnkdfjljkhneaaGreatPr
import Derived.KernelRfl
set_option linter.all false
namespace Go.Proofs.YtmnkdfjljkhneaaGreat
open Go.Vse
open Go (BinOp IntKind UnOp)
set_option maxRecDepth 100000
def c6:Go.Vse.zah Go.Proofs.Tryz.prog (fun i=>pur i&& !(Nat.beq i 23)) Go.Proofs.Tryz.f6=some g6:=by kernel_rfl
def c10:zah Tryz.prog pur Tryz.f10=some g10:=by kernel_rfl
def c14:zah Tryz.prog pur Tryz.f14=some g14:=by kernel_rfl
def c18:zah Tryz.prog pur Tryz.f18=some g18:=by kernel_rfl
def c26:zah Tryz.prog pur Tryz.f26=some g26:=by kernel_rfl
def c30:zah Tryz.prog pur Tryz.f30=some g30:=by kernel_rfl
def c34:zah Tryz.prog pur Tryz.f34=some g34:=by kernel_rfl
def c38:Go.Vse.zah Go.Proofs.Tryz.prog (fun i=>pur i&& !(Nat.beq i 25)) Go.Proofs.Tryz.f38=some g38:=by kernel_rfl
def c42:zah Tryz.prog pur Tryz.f42=some g42:=by kernel_rfl
def c46:zah Tryz.prog pur Tryz.f46=some g46:=by kernel_rfl
def c50:zah Tryz.prog pur Tryz.f50=some g50:=by kernel_rfl
def c54:zah Tryz.prog pur Tryz.f54=some g54:=by kernel_rfl
def c58:zah Tryz.prog pur Tryz.f58=some g58:=by kernel_rfl
def c62:zah Tryz.prog pur Tryz.f62=some g62:=by kernel_rfl
def c66:zah Tryz.prog pur Tryz.f66=some g66:=by kernel_rfl
def c70:zah Tryz.prog pur Tryz.f70=some g70:=by kernel_rfl
def c74:zah Tryz.prog pur Tryz.f74=some g74:=by kernel_rfl
def c78:zah Tryz.prog pur Tryz.f78=some g78:=by kernel_rfl
def c82:zah Tryz.prog pur Tryz.f82=some g82:=by kernel_rfl
def c86:zah Tryz.prog pur Tryz.f86=some g86:=by kernel_rfl
def c90:zah Tryz.prog pur Tryz.f90=some g90:=by kernel_rfl
def c94:zah Tryz.prog pur Tryz.f94=some g94:=by kernel_rfl
def c98:zah Tryz.prog pur Tryz.f98=some g98:=by kernel_rfl
def c102:zah Tryz.prog pur Tryz.f102=some g102:=by kernel_rfl
def c106:zah Tryz.prog pur Tryz.f106=some zym:=by kernel_rfl
def c111:zah Tryz.prog pur Tryz.f111=some zyo:=by kernel_rfl
def c115:zah Tryz.prog pur Tryz.f115=some zyw:=by kernel_rfl
def c127:zah Tryz.prog pur Tryz.f127=some zyz:=by kernel_rfl
def c132:zah Tryz.prog pur Tryz.f132=some zyC:=by kernel_rfl
def c136:zah Tryz.prog pur Tryz.f136=some g136:=by kernel_rfl
def c140:zah Tryz.prog pur Tryz.f140=some g140:=by kernel_rfl
def c144:zah Tryz.prog pur Tryz.f144=some zyI:=by kernel_rfl
def c153:zah Tryz.prog pur Tryz.f153=some g153:=by kernel_rfl
def c157:zah Tryz.prog pur Tryz.f157=some zyL:=by kernel_rfl
def c161:zah Tryz.prog pur Tryz.f161=some g161:=by kernel_rfl
def c165:zah Tryz.prog pur Tryz.f165=some g165:=by kernel_rfl
def c169:zah Tryz.prog pur Tryz.f169=some g169:=by kernel_rfl
def c173:zah Tryz.prog pur Tryz.f173=some g173:=by kernel_rfl
def c177:zah Tryz.prog pur Tryz.f177=some g177:=by kernel_rfl
def c181:zah Tryz.prog pur Tryz.f181=some g181:=by kernel_rfl
end Go.Proofs.YtmnkdfjljkhneaaGreat
