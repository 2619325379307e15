/- Closed runs. Written by program. -/
import Derived.Test.YthcehnaehljnfaaGreatDoorQsE
import Derived.KernelRfl
set_option linter.all false
section
namespace Go.Proofs.YthcehnaehljnfaaGreatDoor
open Go.Vse
open Go (BinOp IntKind UnOp)
set_option maxRecDepth 100000
theorem Qs13:zab pr QsE13:=rEz zal [] trivial (by kernel_rfl)
theorem Qs17:zab pr QsE17:=rEz zal [] trivial (by kernel_rfl)
theorem Qs19:zab pr QsE19:=rEz zal [] trivial (by kernel_rfl)
theorem Qs25:zab pr QsE25:=rEz zal [] trivial (by kernel_rfl)
theorem Qs27:zab pr QsE27:=rEz zal [] trivial (by kernel_rfl)
theorem Qs29:zab pr zNW:=rEz zal [] trivial (by kernel_rfl)
theorem Qs31:zab pr QsE31:=rEz zal [] trivial (by kernel_rfl)
theorem Qs35:zab pr QsE35:=rEz zal [] trivial (by kernel_rfl)
theorem Qs37:zab pr QsE37:=rEz zal [] trivial (by kernel_rfl)
theorem Qs39:zab pr QsE39:=rEz zal [] trivial (by kernel_rfl)
theorem zlk:zab pr zh2:=rEz zal [] trivial (by kernel_rfl)
theorem zuP:zab pr zn1:=rEz QsK1 [zh2] ⟨zlk,trivial⟩ (by kernel_rfl)
theorem zbt:zab pr zaW:=rEz QsK2 [zh2,zn1] ⟨zlk,zuP,trivial⟩ (by kernel_rfl)
theorem zbh:zab pr zaR:=rEz QsK2 [zh2,zn1] ⟨zlk,zuP,trivial⟩ (by kernel_rfl)
theorem zbD:zab pr za4:=rEz QsK3 [zaW,zaR] ⟨zbt,zbh,trivial⟩ (by kernel_rfl)
theorem Qs64:zab pr zCe:=rEz QsK4 [zh2,zaW,zaR,za4] ⟨zlk,zbt,zbh,zbD,trivial⟩ (by kernel_rfl)
theorem Qs66:zab pr QsE66:=rEz zrY [zCe] ⟨Qs64,trivial⟩ (by kernel_rfl)
theorem Qs78:zab pr zNX:=rEz QsK6 [zh2,zn1,zaR] ⟨zlk,zuP,zbh,trivial⟩ (by kernel_rfl)
theorem Qs86:zab pr zCf:=rEz QsK7 [zh2,zNX] ⟨zlk,Qs78,trivial⟩ (by kernel_rfl)
end Go.Proofs.YthcehnaehljnfaaGreatDoor
end
section
namespace Go.Proofs.YthcehnaehljnfaaGreatDoor
open Go.Vse
open Go (BinOp IntKind UnOp)
set_option maxRecDepth 100000
theorem Qs88:zab pr QsE88:=rEz zrY [zCf] ⟨Qs86,trivial⟩ (by kernel_rfl)
theorem Qs101:zab pr zEG:=rEz QsK6 [zh2,zn1,zaR] ⟨zlk,zuP,zbh,trivial⟩ (by kernel_rfl)
theorem zLr:zab pr zuS:=rEz QsK7 [zh2,zEG] ⟨zlk,Qs101,trivial⟩ (by kernel_rfl)
theorem Qs111:zab pr zUR:=rEz zrY [zuS] ⟨zLr,trivial⟩ (by kernel_rfl)
theorem Qs115:zab pr zUV:=rEz zrY [zCe] ⟨Qs64,trivial⟩ (by kernel_rfl)
theorem Qs119:zab pr zUY:=rEz zrY [zCf] ⟨Qs86,trivial⟩ (by kernel_rfl)
theorem Qs123:zab pr zU0:=rEz zrY [zuS] ⟨zLr,trivial⟩ (by kernel_rfl)
theorem Qs125:zab pr zU2:=rEz zal [] trivial (by kernel_rfl)
theorem Qs127:zab pr zU6:=rEz zal [] trivial (by kernel_rfl)
theorem zLs:zab pr zEJ:=rEz zal [] trivial (by kernel_rfl)
theorem Qs131:zab pr zU7:=rEz zal [] trivial (by kernel_rfl)
theorem Qs133:zab pr zU8:=rEz zal [] trivial (by kernel_rfl)
theorem Qs135:zab pr zU9:=rEz zal [] trivial (by kernel_rfl)
theorem Qs136:zab pr zVa:=rEz zal [] trivial (by kernel_rfl)
theorem zLx:zab pr zEK:=rEz zal [] trivial (by kernel_rfl)
theorem zgj:zab pr zEM:=rEz zal [] trivial (by kernel_rfl)
theorem zLA:zab pr zEN:=rEz zal [] trivial (by kernel_rfl)
end Go.Proofs.YthcehnaehljnfaaGreatDoor
end
