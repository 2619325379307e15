/- Closed runs. Written by program. -/
import Derived.Test.YtimgcabgophnfaaGreatQrE
import Derived.Test.YtimgcabgophnfaaGreatQr0
import Derived.KernelRfl
set_option linter.all false
section
namespace Go.Proofs.YtimgcabgophnfaaGreat
open Go.Vse
open Go (BinOp IntKind UnOp)
set_option maxRecDepth 100000
theorem Qr154 : zbO pr zMJ :=
 zbS (mask := 0) (n := 400) (l := []) trivial (by kernel_rfl)
theorem Qr156 : zbO pr zMu :=
 zbS (mask := 0) (n := 400) (l := []) trivial (by kernel_rfl)
theorem Qr158 : zbO pr zNr :=
 zbS (mask := 0) (n := 400) (l := []) trivial (by kernel_rfl)
theorem zxC : zbO pr zLx :=
 zbS (mask := 365375409332725729550921208179070754913983135744) (n := 400) (l := [zlR]) ⟨zrj,trivial⟩ (by kernel_rfl)
theorem zxW : zbO pr zKR :=
 zbS (mask := 365375409332725729550921208179070754913983135744) (n := 400) (l := [zlT]) ⟨ztC,trivial⟩ (by kernel_rfl)
theorem zHw : zbO pr zMa :=
 zbS (mask := 365375409332725729550921208179070754913983135744) (n := 400) (l := [zi2]) ⟨znV,trivial⟩ (by kernel_rfl)
theorem Qr174 : zbO pr zM5 :=
 zbS (mask := 0) (n := 400) (l := []) trivial (by kernel_rfl)
theorem Qr176 : zbO pr zLW :=
 zbS (mask := 0) (n := 400) (l := []) trivial (by kernel_rfl)
theorem zwO : zbO pr zLS :=
 zbS (mask := 365375409332725729550921208179070754913983135744) (n := 400) (l := [zlR]) ⟨zrj,trivial⟩ (by kernel_rfl)
theorem zw6 : zbO pr zML :=
 zbS (mask := 365375409332725729550921208179070754913983135744) (n := 400) (l := [zlT]) ⟨ztC,trivial⟩ (by kernel_rfl)
theorem zHR : zbO pr zMH :=
 zbS (mask := 365375409332725729550921208179070754913983135744) (n := 400) (l := [zi2]) ⟨znV,trivial⟩ (by kernel_rfl)
theorem Qr189 : zbO pr zLR :=
 zbS (mask := 0) (n := 400) (l := []) trivial (by kernel_rfl)
theorem Qr261 : zbO pr zzc :=
 zbS (mask := 0) (n := 400) (l := []) trivial (by kernel_rfl)
theorem Qr265 : zbO pr zB4 :=
 zbS (mask := 0) (n := 400) (l := []) trivial (by kernel_rfl)
end Go.Proofs.YtimgcabgophnfaaGreat
end
section
namespace Go.Proofs.YtimgcabgophnfaaGreat
open Go.Vse
open Go (BinOp IntKind UnOp)
set_option maxRecDepth 100000
theorem Qr281 : zbO pr zKN :=
 zbS (mask := 75557881740312832901120) (n := 400) (l := [zGK,zzc,zB4]) ⟨Qr29,Qr261,Qr265,trivial⟩ (by kernel_rfl)
end Go.Proofs.YtimgcabgophnfaaGreat
end
