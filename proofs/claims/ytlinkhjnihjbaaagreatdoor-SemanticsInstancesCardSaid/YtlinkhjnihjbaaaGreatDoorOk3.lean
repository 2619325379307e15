/- The resolved code is what the compiler makes of the program. Written by program. -/
import Derived.Test.YtlinkhjnihjbaaaGreatDoorProg
import Derived.Test.YtlinkhjnihjbaaaGreatDoorPr
import Derived.KernelRfl
set_option linter.all false
namespace Go.Proofs.YtlinkhjnihjbaaaGreatDoor
open Go.Vse
open Go (BinOp IntKind UnOp)
set_option maxRecDepth 100000
def c6:zae Tryz.prog pur Tryz.f6=some g6:=by kernel_rfl
def c10:zae Tryz.prog pur Tryz.f10=some g10:=by kernel_rfl
def c14:zae Tryz.prog pur Tryz.f14=some g14:=by kernel_rfl
def c18:zae Tryz.prog pur Tryz.f18=some g18:=by kernel_rfl
def c22:zae Tryz.prog pur Tryz.f22=some g22:=by kernel_rfl
def c26:zae Tryz.prog pur Tryz.f26=some g26:=by kernel_rfl
def c30:zae Tryz.prog pur Tryz.f30=some g30:=by kernel_rfl
def c34:zae Tryz.prog pur Tryz.f34=some g34:=by kernel_rfl
def c38:zae Tryz.prog pur Tryz.f38=some g38:=by kernel_rfl
def c42:zae Tryz.prog pur Tryz.f42=some g42:=by kernel_rfl
def c46:zae Tryz.prog pur Tryz.f46=some g46:=by kernel_rfl
def c51:zae Tryz.prog pur Tryz.f51=some g51:=by kernel_rfl
def c58:zae Tryz.prog pur Tryz.f58=some g58:=by kernel_rfl
def c62:zae Tryz.prog pur Tryz.f62=some g62:=by kernel_rfl
def c67:zae Tryz.prog pur Tryz.f67=some g67:=by kernel_rfl
def c71:zae Tryz.prog pur Tryz.f71=some g71:=by kernel_rfl
def c75:zae Tryz.prog pur Tryz.f75=some g75:=by kernel_rfl
def c79:zae Tryz.prog pur Tryz.f79=some g79:=by kernel_rfl
def c83:zae Tryz.prog pur Tryz.f83=some g83:=by kernel_rfl
def c87:zae Tryz.prog pur Tryz.f87=some g87:=by kernel_rfl
def c94:zae Tryz.prog pur Tryz.f94=some g94:=by kernel_rfl
def c98:zae Tryz.prog pur Tryz.f98=some g98:=by kernel_rfl
def c102:zae Tryz.prog pur Tryz.f102=some g102:=by kernel_rfl
def c107:zae Tryz.prog pur Tryz.f107=some g107:=by kernel_rfl
def c114:zae Tryz.prog pur Tryz.f114=some g114:=by kernel_rfl
def c119:zae Tryz.prog pur Tryz.f119=some zyw:=by kernel_rfl
def c123:zae Tryz.prog pur Tryz.f123=some g123:=by kernel_rfl
def c129:zae Tryz.prog pur Tryz.f129=some g129:=by kernel_rfl
def c135:zae Tryz.prog pur Tryz.f135=some g135:=by kernel_rfl
def c140:zae Tryz.prog pur Tryz.f140=some g140:=by kernel_rfl
def c144:zae Tryz.prog pur Tryz.f144=some g144:=by kernel_rfl
def c149:zae Tryz.prog pur Tryz.f149=some g149:=by kernel_rfl
def c155:zae Tryz.prog pur Tryz.f155=some g155:=by kernel_rfl
def c159:zae Tryz.prog pur Tryz.f159=some g159:=by kernel_rfl
def c163:zae Tryz.prog pur Tryz.f163=some g163:=by kernel_rfl
def c171:zae Tryz.prog pur Tryz.f171=some g171:=by kernel_rfl
def c183:zae Tryz.prog pur Tryz.f183=some g183:=by kernel_rfl
def c187:zae Tryz.prog pur Tryz.f187=some g187:=by kernel_rfl
def c191:zae Tryz.prog pur Tryz.f191=some g191:=by kernel_rfl
def c199:Go.Vse.zae Go.Proofs.Tryz.prog (fun i=>pur i&& !(Nat.beq i 278)) Go.Proofs.Tryz.f199=some g199:=by kernel_rfl
def c203:zae Tryz.prog pur Tryz.f203=some g203:=by kernel_rfl
def c209:zae Tryz.prog pur Tryz.f209=some g209:=by kernel_rfl
def c213:zae Tryz.prog pur Tryz.f213=some g213:=by kernel_rfl
def c224:zae Tryz.prog pur Tryz.f224=some g224:=by kernel_rfl
def c228:zae Tryz.prog pur Tryz.f228=some g228:=by kernel_rfl
def c232:zae Tryz.prog pur Tryz.f232=some g232:=by kernel_rfl
def c241:zae Tryz.prog pur Tryz.f241=some zyH:=by kernel_rfl
def c245:zae Tryz.prog pur Tryz.f245=some g245:=by kernel_rfl
def c250:zae Tryz.prog pur Tryz.f250=some g250:=by kernel_rfl
def c255:zae Tryz.prog pur Tryz.f255=some g255:=by kernel_rfl
def c259:zae Tryz.prog pur Tryz.f259=some g259:=by kernel_rfl
def c269:zae Tryz.prog pur Tryz.f269=some g269:=by kernel_rfl
def c273:zae Tryz.prog pur Tryz.f273=some g273:=by kernel_rfl
def c279:zae Tryz.prog pur Tryz.f279=some g279:=by kernel_rfl
def c285:zae Tryz.prog pur Tryz.f285=some g285:=by kernel_rfl
def c289:zae Tryz.prog pur Tryz.f289=some g289:=by kernel_rfl
def c298:zae Tryz.prog pur Tryz.f298=some zyL:=by kernel_rfl
def c304:zae Tryz.prog pur Tryz.f304=some g304:=by kernel_rfl
def c311:zae Tryz.prog pur Tryz.f311=some g311:=by kernel_rfl
def c320:zae Tryz.prog pur Tryz.f320=some g320:=by kernel_rfl
def c324:zae Tryz.prog pur Tryz.f324=some zyO:=by kernel_rfl
def c330:zae Tryz.prog pur Tryz.f330=some g330:=by kernel_rfl
def c335:zae Tryz.prog pur Tryz.f335=some g335:=by kernel_rfl
def c344:zae Tryz.prog pur Tryz.f344=some zyQ:=by kernel_rfl
def c356:zae Tryz.prog pur Tryz.f356=some g356:=by kernel_rfl
end Go.Proofs.YtlinkhjnihjbaaaGreatDoor
