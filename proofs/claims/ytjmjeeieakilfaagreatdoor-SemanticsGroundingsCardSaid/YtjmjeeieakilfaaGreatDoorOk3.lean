/- The resolved code is what the compiler makes of the program. Written by program. -/
import Derived.Test.YtjmjeeieakilfaaGreatDoorProg
import Derived.Test.YtjmjeeieakilfaaGreatDoorPr
import Derived.KernelRfl
set_option linter.all false
namespace Go.Proofs.YtjmjeeieakilfaaGreatDoor
open Go.Vse
open Go (BinOp IntKind UnOp)
set_option maxRecDepth 100000
theorem c6 : Go.Vse.compFn Go.Proofs.Tryz.prog pur Go.Proofs.Tryz.f6 = some g6 := by kernel_rfl
theorem c10 : Go.Vse.compFn Go.Proofs.Tryz.prog pur Go.Proofs.Tryz.f10 = some g10 := by kernel_rfl
theorem c15 : Go.Vse.compFn Go.Proofs.Tryz.prog pur Go.Proofs.Tryz.f15 = some g15 := by kernel_rfl
theorem c19 : Go.Vse.compFn Go.Proofs.Tryz.prog pur Go.Proofs.Tryz.f19 = some g19 := by kernel_rfl
theorem c23 : Go.Vse.compFn Go.Proofs.Tryz.prog pur Go.Proofs.Tryz.f23 = some g23 := by kernel_rfl
theorem c27 : Go.Vse.compFn Go.Proofs.Tryz.prog pur Go.Proofs.Tryz.f27 = some g27 := by kernel_rfl
theorem c34 : Go.Vse.compFn Go.Proofs.Tryz.prog pur Go.Proofs.Tryz.f34 = some g34 := by kernel_rfl
theorem c38 : Go.Vse.compFn Go.Proofs.Tryz.prog pur Go.Proofs.Tryz.f38 = some g38 := by kernel_rfl
theorem c42 : Go.Vse.compFn Go.Proofs.Tryz.prog pur Go.Proofs.Tryz.f42 = some g42 := by kernel_rfl
theorem c46 : Go.Vse.compFn Go.Proofs.Tryz.prog pur Go.Proofs.Tryz.f46 = some g46 := by kernel_rfl
theorem c50 : Go.Vse.compFn Go.Proofs.Tryz.prog pur Go.Proofs.Tryz.f50 = some g50 := by kernel_rfl
theorem c55 : Go.Vse.compFn Go.Proofs.Tryz.prog pur Go.Proofs.Tryz.f55 = some g55 := by kernel_rfl
theorem c59 : Go.Vse.compFn Go.Proofs.Tryz.prog pur Go.Proofs.Tryz.f59 = some g59 := by kernel_rfl
theorem c63 : Go.Vse.compFn Go.Proofs.Tryz.prog pur Go.Proofs.Tryz.f63 = some g63 := by kernel_rfl
theorem c67 : Go.Vse.compFn Go.Proofs.Tryz.prog pur Go.Proofs.Tryz.f67 = some g67 := by kernel_rfl
theorem c71 : Go.Vse.compFn Go.Proofs.Tryz.prog pur Go.Proofs.Tryz.f71 = some g71 := by kernel_rfl
theorem c75 : Go.Vse.compFn Go.Proofs.Tryz.prog pur Go.Proofs.Tryz.f75 = some g75 := by kernel_rfl
theorem c79 : Go.Vse.compFn Go.Proofs.Tryz.prog pur Go.Proofs.Tryz.f79 = some g79 := by kernel_rfl
theorem c85 : Go.Vse.compFn Go.Proofs.Tryz.prog pur Go.Proofs.Tryz.f85 = some g85 := by kernel_rfl
theorem c89 : Go.Vse.compFn Go.Proofs.Tryz.prog pur Go.Proofs.Tryz.f89 = some g89 := by kernel_rfl
theorem c93 : Go.Vse.compFn Go.Proofs.Tryz.prog pur Go.Proofs.Tryz.f93 = some g93 := by kernel_rfl
theorem c97 : Go.Vse.compFn Go.Proofs.Tryz.prog pur Go.Proofs.Tryz.f97 = some g97 := by kernel_rfl
theorem c102 : Go.Vse.compFn Go.Proofs.Tryz.prog pur Go.Proofs.Tryz.f102 = some g102 := by kernel_rfl
theorem c107 : Go.Vse.compFn Go.Proofs.Tryz.prog pur Go.Proofs.Tryz.f107 = some g107 := by kernel_rfl
theorem c111 : Go.Vse.compFn Go.Proofs.Tryz.prog pur Go.Proofs.Tryz.f111 = some g111 := by kernel_rfl
theorem c116 : Go.Vse.compFn Go.Proofs.Tryz.prog pur Go.Proofs.Tryz.f116 = some g116 := by kernel_rfl
theorem c123 : Go.Vse.compFn Go.Proofs.Tryz.prog pur Go.Proofs.Tryz.f123 = some g123 := by kernel_rfl
theorem c127 : Go.Vse.compFn Go.Proofs.Tryz.prog pur Go.Proofs.Tryz.f127 = some g127 := by kernel_rfl
theorem c131 : Go.Vse.compFn Go.Proofs.Tryz.prog pur Go.Proofs.Tryz.f131 = some g131 := by kernel_rfl
theorem c139 : Go.Vse.compFn Go.Proofs.Tryz.prog pur Go.Proofs.Tryz.f139 = some g139 := by kernel_rfl
theorem c143 : Go.Vse.compFn Go.Proofs.Tryz.prog pur Go.Proofs.Tryz.f143 = some g143 := by kernel_rfl
theorem c147 : Go.Vse.compFn Go.Proofs.Tryz.prog pur Go.Proofs.Tryz.f147 = some g147 := by kernel_rfl
theorem c152 : Go.Vse.compFn Go.Proofs.Tryz.prog pur Go.Proofs.Tryz.f152 = some g152 := by kernel_rfl
theorem c156 : Go.Vse.compFn Go.Proofs.Tryz.prog pur Go.Proofs.Tryz.f156 = some g156 := by kernel_rfl
theorem c162 : Go.Vse.compFn Go.Proofs.Tryz.prog pur Go.Proofs.Tryz.f162 = some g162 := by kernel_rfl
theorem c168 : Go.Vse.compFn Go.Proofs.Tryz.prog pur Go.Proofs.Tryz.f168 = some g168 := by kernel_rfl
theorem c172 : Go.Vse.compFn Go.Proofs.Tryz.prog pur Go.Proofs.Tryz.f172 = some g172 := by kernel_rfl
theorem c177 : Go.Vse.compFn Go.Proofs.Tryz.prog pur Go.Proofs.Tryz.f177 = some g177 := by kernel_rfl
theorem c181 : Go.Vse.compFn Go.Proofs.Tryz.prog pur Go.Proofs.Tryz.f181 = some g181 := by kernel_rfl
theorem c187 : Go.Vse.compFn Go.Proofs.Tryz.prog pur Go.Proofs.Tryz.f187 = some g187 := by kernel_rfl
theorem c191 : Go.Vse.compFn Go.Proofs.Tryz.prog pur Go.Proofs.Tryz.f191 = some g191 := by kernel_rfl
theorem c197 : Go.Vse.compFn Go.Proofs.Tryz.prog pur Go.Proofs.Tryz.f197 = some g197 := by kernel_rfl
theorem c206 : Go.Vse.compFn Go.Proofs.Tryz.prog pur Go.Proofs.Tryz.f206 = some g206 := by kernel_rfl
theorem c212 : Go.Vse.compFn Go.Proofs.Tryz.prog pur Go.Proofs.Tryz.f212 = some g212 := by kernel_rfl
theorem c216 : Go.Vse.compFn Go.Proofs.Tryz.prog pur Go.Proofs.Tryz.f216 = some g216 := by kernel_rfl
theorem c220 : Go.Vse.compFn Go.Proofs.Tryz.prog pur Go.Proofs.Tryz.f220 = some g220 := by kernel_rfl
theorem c227 : Go.Vse.compFn Go.Proofs.Tryz.prog pur Go.Proofs.Tryz.f227 = some g227 := by kernel_rfl
theorem c232 : Go.Vse.compFn Go.Proofs.Tryz.prog pur Go.Proofs.Tryz.f232 = some g232 := by kernel_rfl
theorem c247 : Go.Vse.compFn Go.Proofs.Tryz.prog pur Go.Proofs.Tryz.f247 = some g247 := by kernel_rfl
theorem c251 : Go.Vse.compFn Go.Proofs.Tryz.prog pur Go.Proofs.Tryz.f251 = some g251 := by kernel_rfl
theorem c256 : Go.Vse.compFn Go.Proofs.Tryz.prog pur Go.Proofs.Tryz.f256 = some g256 := by kernel_rfl
theorem c261 : Go.Vse.compFn Go.Proofs.Tryz.prog pur Go.Proofs.Tryz.f261 = some g261 := by kernel_rfl
theorem c269 : Go.Vse.compFn Go.Proofs.Tryz.prog pur Go.Proofs.Tryz.f269 = some g269 := by kernel_rfl
theorem c287 : Go.Vse.compFn Go.Proofs.Tryz.prog pur Go.Proofs.Tryz.f287 = some g287 := by kernel_rfl
end Go.Proofs.YtjmjeeieakilfaaGreatDoor
