/- Closed runs. Written by program. -/
import Derived.Test.YtkcnnkncapiohaaGreatDoorQsE
import Derived.Test.YtkcnnkncapiohaaGreatDoorQs1
import Derived.KernelRfl
set_option linter.all false
namespace Go.Proofs.YtkcnnkncapiohaaGreatDoor
open Go.Vse
open Go (BinOp IntKind UnOp)
set_option maxRecDepth 100000
theorem Qs608:zas pr zDG:=rE QsK14 [zDD,zDE,zDF] ⟨Qs526,Qs532,Qs590,trivial⟩ (by kernel_rfl)
theorem Qs610:zas pr zRp:=rE QsK15 [zDG] ⟨Qs608,trivial⟩ (by kernel_rfl)
end Go.Proofs.YtkcnnkncapiohaaGreatDoor
