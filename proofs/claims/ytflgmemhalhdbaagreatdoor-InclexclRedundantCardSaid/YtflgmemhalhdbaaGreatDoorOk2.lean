/- The resolved code is what the compiler makes of the program. Written by program. -/
import Derived.Test.YtflgmemhalhdbaaGreatDoorProg
import Derived.Test.YtflgmemhalhdbaaGreatDoorPr
import Derived.KernelRfl
set_option linter.all false
namespace Go.Proofs.YtflgmemhalhdbaaGreatDoor
open Go.Vse
open Go (BinOp IntKind UnOp)
set_option maxRecDepth 100000
def c5:zae Tryz.prog pur Tryz.f5=some g5:=by kernel_rfl
def c9:zae Tryz.prog pur Tryz.f9=some g9:=by kernel_rfl
def c13:zae Tryz.prog pur Tryz.f13=some g13:=by kernel_rfl
def c17:zae Tryz.prog pur Tryz.f17=some g17:=by kernel_rfl
def c21:zae Tryz.prog pur Tryz.f21=some g21:=by kernel_rfl
def c25:zae Tryz.prog pur Tryz.f25=some g25:=by kernel_rfl
def c29:zae Tryz.prog pur Tryz.f29=some g29:=by kernel_rfl
def c33:zae Tryz.prog pur Tryz.f33=some g33:=by kernel_rfl
def c37:zae Tryz.prog pur Tryz.f37=some g37:=by kernel_rfl
def c41:zae Tryz.prog pur Tryz.f41=some g41:=by kernel_rfl
def c45:zae Tryz.prog pur Tryz.f45=some g45:=by kernel_rfl
def c49:Go.Vse.zae Go.Proofs.Tryz.prog (fun i=>pur i&& !(Nat.beq i 65)) Go.Proofs.Tryz.f49=some g49:=by kernel_rfl
def c53:zae Tryz.prog pur Tryz.f53=some g53:=by kernel_rfl
def c57:zae Tryz.prog pur Tryz.f57=some g57:=by kernel_rfl
def c61:zae Tryz.prog pur Tryz.f61=some g61:=by kernel_rfl
def c65:Go.Vse.zae Go.Proofs.Tryz.prog (fun i=>pur i&& !(Nat.beq i 80)) Go.Proofs.Tryz.f65=some g65:=by kernel_rfl
def c69:zae Tryz.prog pur Tryz.f69=some g69:=by kernel_rfl
def c73:zae Tryz.prog pur Tryz.f73=some g73:=by kernel_rfl
def c77:zae Tryz.prog pur Tryz.f77=some g77:=by kernel_rfl
def c81:zae Tryz.prog pur Tryz.f81=some g81:=by kernel_rfl
def c85:zae Tryz.prog pur Tryz.f85=some g85:=by kernel_rfl
def c89:zae Tryz.prog pur Tryz.f89=some g89:=by kernel_rfl
def c93:zae Tryz.prog pur Tryz.f93=some g93:=by kernel_rfl
def c97:zae Tryz.prog pur Tryz.f97=some g97:=by kernel_rfl
def c101:zae Tryz.prog pur Tryz.f101=some g101:=by kernel_rfl
def c105:zae Tryz.prog pur Tryz.f105=some zuE:=by kernel_rfl
def c109:zae Tryz.prog pur Tryz.f109=some zy9:=by kernel_rfl
def c113:zae Tryz.prog pur Tryz.f113=some zzd:=by kernel_rfl
def c117:zae Tryz.prog pur Tryz.f117=some zzg:=by kernel_rfl
def c121:zae Tryz.prog pur Tryz.f121=some zzh:=by kernel_rfl
def c125:zae Tryz.prog pur Tryz.f125=some zzk:=by kernel_rfl
def c129:zae Tryz.prog pur Tryz.f129=some zzo:=by kernel_rfl
def c133:zae Tryz.prog pur Tryz.f133=some zzw:=by kernel_rfl
def c138:zae Tryz.prog pur Tryz.f138=some g138:=by kernel_rfl
def c146:zae Tryz.prog pur Tryz.f146=some zzF:=by kernel_rfl
def c150:zae Tryz.prog pur Tryz.f150=some zzM:=by kernel_rfl
def c155:zae Tryz.prog pur Tryz.f155=some zzN:=by kernel_rfl
def c159:zae Tryz.prog pur Tryz.f159=some g159:=by kernel_rfl
def c163:zae Tryz.prog pur Tryz.f163=some g163:=by kernel_rfl
def c167:zae Tryz.prog pur Tryz.f167=some g167:=by kernel_rfl
end Go.Proofs.YtflgmemhalhdbaaGreatDoor
