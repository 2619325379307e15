/- Closed runs. Written by program. -/
import Derived.Test.YtkcnnkncapiohaaGreatDoorQsE
import Derived.Test.YtkcnnkncapiohaaGreatDoorQs0
import Derived.KernelRfl
set_option linter.all false
section
namespace Go.Proofs.YtkcnnkncapiohaaGreatDoor
open Go.Vse
open Go (BinOp IntKind UnOp)
set_option maxRecDepth 100000
theorem Qs349:zas pr zQA:=rE zpJ [znQ,zet] ⟨zvL,zfu,trivial⟩ (by kernel_rfl)
theorem Qs353:zas pr zQC:=rE zii [zkN] ⟨zpy,trivial⟩ (by kernel_rfl)
theorem Qs357:zas pr zQE:=rE zii [zkO] ⟨zpz,trivial⟩ (by kernel_rfl)
theorem Qs361:zas pr zQF:=rE zpJ [znQ,zet] ⟨zvL,zfu,trivial⟩ (by kernel_rfl)
theorem Qs365:zas pr zQG:=rE zii [zkN] ⟨zpy,trivial⟩ (by kernel_rfl)
theorem Qs369:zas pr zQJ:=rE zii [zkO] ⟨zpz,trivial⟩ (by kernel_rfl)
theorem Qs373:zas pr zQK:=rE za7 [] trivial (by kernel_rfl)
theorem Qs377:zas pr zQL:=rE za7 [] trivial (by kernel_rfl)
theorem Qs379:zas pr zQN:=rE za7 [] trivial (by kernel_rfl)
theorem Qs381:zas pr zQO:=rE za7 [] trivial (by kernel_rfl)
theorem Qs383:zas pr zQP:=rE za7 [] trivial (by kernel_rfl)
theorem Qs389:zas pr zQS:=rE zpJ [znQ,zet] ⟨zvL,zfu,trivial⟩ (by kernel_rfl)
theorem Qs393:zas pr zQV:=rE zii [zkN] ⟨zpy,trivial⟩ (by kernel_rfl)
theorem Qs397:zas pr zQX:=rE zii [zkO] ⟨zpz,trivial⟩ (by kernel_rfl)
theorem Qs399:zas pr zQZ:=rE za7 [] trivial (by kernel_rfl)
theorem Qs401:zas pr zQ0:=rE za7 [] trivial (by kernel_rfl)
theorem Qs405:zas pr zQ1:=rE zpJ [znQ,zet] ⟨zvL,zfu,trivial⟩ (by kernel_rfl)
end Go.Proofs.YtkcnnkncapiohaaGreatDoor
end
section
namespace Go.Proofs.YtkcnnkncapiohaaGreatDoor
open Go.Vse
open Go (BinOp IntKind UnOp)
set_option maxRecDepth 100000
theorem Qs409:zas pr zQ3:=rE zii [zkN] ⟨zpy,trivial⟩ (by kernel_rfl)
theorem Qs413:zas pr zQ5:=rE zii [zkO] ⟨zpz,trivial⟩ (by kernel_rfl)
theorem Qs415:zas pr zQ6:=rE za7 [] trivial (by kernel_rfl)
theorem Qs417:zas pr zQ7:=rE za7 [] trivial (by kernel_rfl)
theorem Qs419:zas pr zQ8:=rE za7 [] trivial (by kernel_rfl)
theorem Qs421:zas pr zQ9:=rE za7 [] trivial (by kernel_rfl)
theorem zIX:zas pr zvS:=rE za7 [] trivial (by kernel_rfl)
theorem Qs442:zas pr zRc:=rE zpL [zfS,zvS] ⟨zhn,zIX,trivial⟩ (by kernel_rfl)
theorem zIZ:zas pr zvW:=rE za7 [] trivial (by kernel_rfl)
theorem Qs454:zas pr zRd:=rE zpL [zfT,zvW] ⟨zhq,zIZ,trivial⟩ (by kernel_rfl)
theorem zI0:zas pr zvX:=rE za7 [] trivial (by kernel_rfl)
theorem Qs470:zas pr zRm:=rE zpL [zfU,zvX] ⟨zhr,zI0,trivial⟩ (by kernel_rfl)
theorem zI6:zas pr zvY:=rE za7 [] trivial (by kernel_rfl)
theorem Qs482:zas pr zRn:=rE zpL [zfV,zvY] ⟨zhs,zI6,trivial⟩ (by kernel_rfl)
theorem Qs484:zas pr zRo:=rE zpL [zfS,zfT,zfU,zfV,zvS,zvW,zvX,zvY] ⟨zhn,zhq,zhr,zhs,zIX,zIZ,zI0,zI6,trivial⟩ (by kernel_rfl)
theorem Qs526:zas pr zDD:=rE za7 [] trivial (by kernel_rfl)
theorem Qs532:zas pr zDE:=rE za7 [] trivial (by kernel_rfl)
theorem Qs590:zas pr zDF:=rE za7 [] trivial (by kernel_rfl)
end Go.Proofs.YtkcnnkncapiohaaGreatDoor
end
