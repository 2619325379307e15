/- Closed runs. Written by program. -/
import Derived.Test.YtflgmemhalhdbaaGreatDoorQsE
import Derived.KernelRfl
set_option linter.all false
namespace Go.Proofs.YtflgmemhalhdbaaGreatDoor
open Go.Vse
open Go (BinOp IntKind UnOp)
set_option maxRecDepth 100000
theorem Qs446:zaB pr zPF:=
 zaC (mask:=0) (n:=400) (l:=[]) trivial (by kernel_rfl)
theorem Qs447:zaB pr zPH:=
 zaC (mask:=0) (n:=400) (l:=[]) trivial (by kernel_rfl)
theorem Qs448:zaB pr zPN:=
 zaC (mask:=0) (n:=400) (l:=[]) trivial (by kernel_rfl)
theorem Qs449:zaB pr zPO:=
 zaC (mask:=0) (n:=400) (l:=[]) trivial (by kernel_rfl)
theorem Qs451:zaB pr zPQ:=
 zaC (mask:=0) (n:=400) (l:=[]) trivial (by kernel_rfl)
end Go.Proofs.YtflgmemhalhdbaaGreatDoor
