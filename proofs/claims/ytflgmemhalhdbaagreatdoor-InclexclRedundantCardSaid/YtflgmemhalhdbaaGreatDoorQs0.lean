/- Closed runs. Written by program. -/
import Derived.Test.YtflgmemhalhdbaaGreatDoorQsE
import Derived.KernelRfl
set_option linter.all false
section
namespace Go.Proofs.YtflgmemhalhdbaaGreatDoor
open Go.Vse
open Go (BinOp IntKind UnOp)
set_option maxRecDepth 100000
theorem Qs13:zaB pr QsE13:=
 zaC (mask:=0) (n:=400) (l:=[]) trivial (by kernel_rfl)
theorem Qs17:zaB pr QsE17:=
 zaC (mask:=0) (n:=400) (l:=[]) trivial (by kernel_rfl)
theorem Qs19:zaB pr QsE19:=
 zaC (mask:=0) (n:=400) (l:=[]) trivial (by kernel_rfl)
theorem Qs25:zaB pr QsE25:=
 zaC (mask:=0) (n:=400) (l:=[]) trivial (by kernel_rfl)
theorem Qs27:zaB pr QsE27:=
 zaC (mask:=0) (n:=400) (l:=[]) trivial (by kernel_rfl)
theorem Qs29:zaB pr QsE29:=
 zaC (mask:=0) (n:=400) (l:=[]) trivial (by kernel_rfl)
theorem Qs31:zaB pr QsE31:=
 zaC (mask:=0) (n:=400) (l:=[]) trivial (by kernel_rfl)
theorem Qs35:zaB pr QsE35:=
 zaC (mask:=0) (n:=400) (l:=[]) trivial (by kernel_rfl)
theorem Qs42:zaB pr QsE42:=
 zaC (mask:=0) (n:=400) (l:=[]) trivial (by kernel_rfl)
theorem zlL:zaB pr ziB:=
 zaC (mask:=0) (n:=400) (l:=[]) trivial (by kernel_rfl)
theorem zyk:zaB pr zpk:=
 zaC (mask:=1461501637330902918203684832716283019655932542976) (n:=400) (l:=[ziB]) ⟨zlL,trivial⟩ (by kernel_rfl)
theorem zDU:zaB pr zsL:=
 zaC (mask:=188533711215686476448275343420400509535615298043904) (n:=400) (l:=[ziB,zpk]) ⟨zlL,zyk,trivial⟩ (by kernel_rfl)
theorem Qs59:zaB pr zGJ:=
 zaC (mask:=235301763610275369830793258067321566164605139419136) (n:=400) (l:=[ziB,zpk,zsL]) ⟨zlL,zyk,zDU,trivial⟩ (by kernel_rfl)
theorem Qs64:zaB pr zym:=
 zaC (mask:=0) (n:=400) (l:=[]) trivial (by kernel_rfl)
theorem ztt:zaB pr znk:=
 zaC (mask:=7307508186654514591018424163581415107075755737088) (n:=400) (l:=[ziB,zGJ,zym]) ⟨zlL,Qs59,Qs64,trivial⟩ (by kernel_rfl)
theorem Qs69:zaB pr QsE69:=
 zaC (mask:=174224571863520493293247799005065324265472) (n:=400) (l:=[znk]) ⟨ztt,trivial⟩ (by kernel_rfl)
theorem Qs81:zaB pr zGK:=
 zaC (mask:=235301763610275369830793258067321566164605139419136) (n:=400) (l:=[ziB,zpk,zsL]) ⟨zlL,zyk,zDU,trivial⟩ (by kernel_rfl)
theorem Qs86:zaB pr zyo:=
 zaC (mask:=0) (n:=400) (l:=[]) trivial (by kernel_rfl)
theorem ztv:zaB pr znl:=
 zaC (mask:=7307508186654514591018424163581415107075755737088) (n:=400) (l:=[ziB,zGK,zyo]) ⟨zlL,Qs81,Qs86,trivial⟩ (by kernel_rfl)
theorem Qs91:zaB pr QsE91:=
 zaC (mask:=174224571863520493293247799005065324265472) (n:=400) (l:=[znl]) ⟨ztv,trivial⟩ (by kernel_rfl)
end Go.Proofs.YtflgmemhalhdbaaGreatDoor
end
section
namespace Go.Proofs.YtflgmemhalhdbaaGreatDoor
open Go.Vse
open Go (BinOp IntKind UnOp)
set_option maxRecDepth 100000
theorem Qs104:zaB pr zAS:=
 zaC (mask:=235301763610275369830793258067321566164605139419136) (n:=400) (l:=[ziB,zpk,zsL]) ⟨zlL,zyk,zDU,trivial⟩ (by kernel_rfl)
theorem zGn:zaB pr ztw:=
 zaC (mask:=0) (n:=400) (l:=[]) trivial (by kernel_rfl)
theorem zpe:zaB pr zkt:=
 zaC (mask:=7307508186654514591018424163581415107075755737088) (n:=400) (l:=[ziB,zAS,ztw]) ⟨zlL,Qs104,zGn,trivial⟩ (by kernel_rfl)
theorem Qs114:zaB pr zNL:=
 zaC (mask:=174224571863520493293247799005065324265472) (n:=400) (l:=[zkt]) ⟨zpe,trivial⟩ (by kernel_rfl)
theorem Qs116:zaB pr zNQ:=
 zaC (mask:=0) (n:=400) (l:=[]) trivial (by kernel_rfl)
theorem zGp:zaB pr zNR:=
 zaC (mask:=0) (n:=400) (l:=[]) trivial (by kernel_rfl)
theorem zGr:zaB pr zNS:=
 zaC (mask:=0) (n:=400) (l:=[]) trivial (by kernel_rfl)
theorem zGu:zaB pr zNT:=
 zaC (mask:=174224571863520493293247799005065324265472) (n:=400) (l:=[znk]) ⟨ztt,trivial⟩ (by kernel_rfl)
theorem zGv:zaB pr zNU:=
 zaC (mask:=174224571863520493293247799005065324265472) (n:=400) (l:=[znl]) ⟨ztv,trivial⟩ (by kernel_rfl)
theorem zGy:zaB pr zNV:=
 zaC (mask:=174224571863520493293247799005065324265472) (n:=400) (l:=[zkt]) ⟨zpe,trivial⟩ (by kernel_rfl)
theorem zGA:zaB pr zNW:=
 zaC (mask:=174224571863520493293247799005065324265472) (n:=400) (l:=[znk]) ⟨ztt,trivial⟩ (by kernel_rfl)
theorem zGB:zaB pr zNX:=
 zaC (mask:=174224571863520493293247799005065324265472) (n:=400) (l:=[znl]) ⟨ztv,trivial⟩ (by kernel_rfl)
theorem zGC:zaB pr zN1:=
 zaC (mask:=174224571863520493293247799005065324265472) (n:=400) (l:=[zkt]) ⟨zpe,trivial⟩ (by kernel_rfl)
theorem Qs148:zaB pr zN3:=
 zaC (mask:=0) (n:=400) (l:=[]) trivial (by kernel_rfl)
theorem Qs152:zaB pr zN5:=
 zaC (mask:=0) (n:=400) (l:=[]) trivial (by kernel_rfl)
end Go.Proofs.YtflgmemhalhdbaaGreatDoor
end
