/- The resolved code is what the compiler makes of the program. Written by program. -/
import Derived.Test.YthcehnaehljnfaaGreatDoorProg
import Derived.Test.YthcehnaehljnfaaGreatDoorPr
import Derived.KernelRfl
set_option linter.all false
namespace Go.Proofs.YthcehnaehljnfaaGreatDoor
open Go.Vse
open Go (BinOp IntKind UnOp)
set_option maxRecDepth 100000
def c3:zad Tryz.prog pur Tryz.f3=some g3:=by kernel_rfl
def c7:Go.Vse.zad Go.Proofs.Tryz.prog (fun i=>pur i&& !(Nat.beq i 19)) Go.Proofs.Tryz.f7=some g7:=by kernel_rfl
def c11:zad Tryz.prog pur Tryz.f11=some g11:=by kernel_rfl
def c15:zad Tryz.prog pur Tryz.f15=some g15:=by kernel_rfl
def c19:zad Tryz.prog pur Tryz.f19=some g19:=by kernel_rfl
def c23:zad Tryz.prog pur Tryz.f23=some g23:=by kernel_rfl
def c27:zad Tryz.prog pur Tryz.f27=some g27:=by kernel_rfl
def c31:zad Tryz.prog pur Tryz.f31=some g31:=by kernel_rfl
def c35:zad Tryz.prog pur Tryz.f35=some g35:=by kernel_rfl
def c39:zad Tryz.prog pur Tryz.f39=some g39:=by kernel_rfl
def c43:zad Tryz.prog pur Tryz.f43=some g43:=by kernel_rfl
def c47:zad Tryz.prog pur Tryz.f47=some g47:=by kernel_rfl
def c51:zad Tryz.prog pur Tryz.f51=some g51:=by kernel_rfl
def c55:zad Tryz.prog pur Tryz.f55=some g55:=by kernel_rfl
def c59:zad Tryz.prog pur Tryz.f59=some g59:=by kernel_rfl
def c63:zad Tryz.prog pur Tryz.f63=some g63:=by kernel_rfl
def c67:zad Tryz.prog pur Tryz.f67=some g67:=by kernel_rfl
def c72:Go.Vse.zad Go.Proofs.Tryz.prog (fun i=>pur i&& !(Nat.beq i 147)) Go.Proofs.Tryz.f72=some g72:=by kernel_rfl
def c76:zad Tryz.prog pur Tryz.f76=some g76:=by kernel_rfl
def c80:zad Tryz.prog pur Tryz.f80=some g80:=by kernel_rfl
def c84:zad Tryz.prog pur Tryz.f84=some g84:=by kernel_rfl
def c89:zad Tryz.prog pur Tryz.f89=some g89:=by kernel_rfl
def c93:zad Tryz.prog pur Tryz.f93=some g93:=by kernel_rfl
def c97:zad Tryz.prog pur Tryz.f97=some g97:=by kernel_rfl
def c101:zad Tryz.prog pur Tryz.f101=some g101:=by kernel_rfl
def c105:zad Tryz.prog pur Tryz.f105=some g105:=by kernel_rfl
def c109:zad Tryz.prog pur Tryz.f109=some g109:=by kernel_rfl
def c113:zad Tryz.prog pur Tryz.f113=some zDf:=by kernel_rfl
def c117:zad Tryz.prog pur Tryz.f117=some zDh:=by kernel_rfl
def c121:zad Tryz.prog pur Tryz.f121=some g121:=by kernel_rfl
def c125:zad Tryz.prog pur Tryz.f125=some zDn:=by kernel_rfl
def c136:zad Tryz.prog pur Tryz.f136=some zDp:=by kernel_rfl
def c140:zad Tryz.prog pur Tryz.f140=some g140:=by kernel_rfl
def c145:zad Tryz.prog pur Tryz.f145=some g145:=by kernel_rfl
def c149:zad Tryz.prog pur Tryz.f149=some g149:=by kernel_rfl
def c156:zad Tryz.prog pur Tryz.f156=some g156:=by kernel_rfl
def c160:zad Tryz.prog pur Tryz.f160=some g160:=by kernel_rfl
def c165:zad Tryz.prog pur Tryz.f165=some g165:=by kernel_rfl
def c169:zad Tryz.prog pur Tryz.f169=some g169:=by kernel_rfl
def c174:zad Tryz.prog pur Tryz.f174=some g174:=by kernel_rfl
def c178:zad Tryz.prog pur Tryz.f178=some g178:=by kernel_rfl
def c183:zad Tryz.prog pur Tryz.f183=some g183:=by kernel_rfl
def c187:zad Tryz.prog pur Tryz.f187=some ziy:=by kernel_rfl
def c197:zad Tryz.prog pur Tryz.f197=some zDz:=by kernel_rfl
def c202:zad Tryz.prog pur Tryz.f202=some g202:=by kernel_rfl
def c214:zad Tryz.prog pur Tryz.f214=some g214:=by kernel_rfl
def c218:zad Tryz.prog pur Tryz.f218=some g218:=by kernel_rfl
def c226:zad Tryz.prog pur Tryz.f226=some g226:=by kernel_rfl
def c232:zad Tryz.prog pur Tryz.f232=some g232:=by kernel_rfl
def c236:zad Tryz.prog pur Tryz.f236=some zDF:=by kernel_rfl
def c242:zad Tryz.prog pur Tryz.f242=some g242:=by kernel_rfl
def c252:zad Tryz.prog pur Tryz.f252=some g252:=by kernel_rfl
def c257:zad Tryz.prog pur Tryz.f257=some g257:=by kernel_rfl
def c266:zad Tryz.prog pur Tryz.f266=some g266:=by kernel_rfl
def c276:zad Tryz.prog pur Tryz.f276=some g276:=by kernel_rfl
end Go.Proofs.YthcehnaehljnfaaGreatDoor
