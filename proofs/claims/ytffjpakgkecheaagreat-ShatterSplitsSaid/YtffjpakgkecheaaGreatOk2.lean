/- The resolved code is what the compiler makes of the program. Written by program. -/
import Derived.Test.YtffjpakgkecheaaGreatProg
import Derived.Test.YtffjpakgkecheaaGreatPr
import Derived.KernelRfl
set_option linter.all false
namespace Go.Proofs.YtffjpakgkecheaaGreat
open Go.Vse
open Go (BinOp IntKind UnOp)
set_option maxRecDepth 100000
theorem c5 : Go.Vse.compFn Go.Proofs.Tryz.prog pur Go.Proofs.Tryz.f5 = some g5 := by kernel_rfl
theorem c9 : Go.Vse.compFn Go.Proofs.Tryz.prog pur Go.Proofs.Tryz.f9 = some g9 := by kernel_rfl
theorem c13 : Go.Vse.compFn Go.Proofs.Tryz.prog pur Go.Proofs.Tryz.f13 = some g13 := by kernel_rfl
theorem c17 : Go.Vse.compFn Go.Proofs.Tryz.prog pur Go.Proofs.Tryz.f17 = some g17 := by kernel_rfl
theorem c21 : Go.Vse.compFn Go.Proofs.Tryz.prog pur Go.Proofs.Tryz.f21 = some g21 := by kernel_rfl
theorem c25 : Go.Vse.compFn Go.Proofs.Tryz.prog pur Go.Proofs.Tryz.f25 = some g25 := by kernel_rfl
theorem c29 : Go.Vse.compFn Go.Proofs.Tryz.prog pur Go.Proofs.Tryz.f29 = some g29 := by kernel_rfl
theorem c33 : Go.Vse.compFn Go.Proofs.Tryz.prog pur Go.Proofs.Tryz.f33 = some g33 := by kernel_rfl
theorem c37 : Go.Vse.compFn Go.Proofs.Tryz.prog pur Go.Proofs.Tryz.f37 = some g37 := by kernel_rfl
theorem c41 : Go.Vse.compFn Go.Proofs.Tryz.prog pur Go.Proofs.Tryz.f41 = some g41 := by kernel_rfl
theorem c45 : Go.Vse.compFn Go.Proofs.Tryz.prog pur Go.Proofs.Tryz.f45 = some g45 := by kernel_rfl
theorem c50 : Go.Vse.compFn Go.Proofs.Tryz.prog pur Go.Proofs.Tryz.f50 = some g50 := by kernel_rfl
theorem c54 : Go.Vse.compFn Go.Proofs.Tryz.prog pur Go.Proofs.Tryz.f54 = some g54 := by kernel_rfl
theorem c58 : Go.Vse.compFn Go.Proofs.Tryz.prog pur Go.Proofs.Tryz.f58 = some g58 := by kernel_rfl
theorem c62 : Go.Vse.compFn Go.Proofs.Tryz.prog pur Go.Proofs.Tryz.f62 = some g62 := by kernel_rfl
theorem c67 : Go.Vse.compFn Go.Proofs.Tryz.prog pur Go.Proofs.Tryz.f67 = some g67 := by kernel_rfl
theorem c71 : Go.Vse.compFn Go.Proofs.Tryz.prog pur Go.Proofs.Tryz.f71 = some g71 := by kernel_rfl
theorem c75 : Go.Vse.compFn Go.Proofs.Tryz.prog pur Go.Proofs.Tryz.f75 = some g75 := by kernel_rfl
theorem c79 : Go.Vse.compFn Go.Proofs.Tryz.prog pur Go.Proofs.Tryz.f79 = some g79 := by kernel_rfl
theorem c84 : Go.Vse.compFn Go.Proofs.Tryz.prog pur Go.Proofs.Tryz.f84 = some g84 := by kernel_rfl
theorem c88 : Go.Vse.compFn Go.Proofs.Tryz.prog pur Go.Proofs.Tryz.f88 = some g88 := by kernel_rfl
theorem c92 : Go.Vse.compFn Go.Proofs.Tryz.prog pur Go.Proofs.Tryz.f92 = some g92 := by kernel_rfl
theorem c96 : Go.Vse.compFn Go.Proofs.Tryz.prog pur Go.Proofs.Tryz.f96 = some g96 := by kernel_rfl
theorem c100 : Go.Vse.compFn Go.Proofs.Tryz.prog pur Go.Proofs.Tryz.f100 = some g100 := by kernel_rfl
theorem c104 : Go.Vse.compFn Go.Proofs.Tryz.prog pur Go.Proofs.Tryz.f104 = some g104 := by kernel_rfl
theorem c108 : Go.Vse.compFn Go.Proofs.Tryz.prog pur Go.Proofs.Tryz.f108 = some g108 := by kernel_rfl
theorem c112 : Go.Vse.compFn Go.Proofs.Tryz.prog pur Go.Proofs.Tryz.f112 = some g112 := by kernel_rfl
theorem c116 : Go.Vse.compFn Go.Proofs.Tryz.prog pur Go.Proofs.Tryz.f116 = some g116 := by kernel_rfl
theorem c120 : Go.Vse.compFn Go.Proofs.Tryz.prog pur Go.Proofs.Tryz.f120 = some g120 := by kernel_rfl
theorem c128 : Go.Vse.compFn Go.Proofs.Tryz.prog pur Go.Proofs.Tryz.f128 = some g128 := by kernel_rfl
theorem c140 : Go.Vse.compFn Go.Proofs.Tryz.prog pur Go.Proofs.Tryz.f140 = some g140 := by kernel_rfl
theorem c145 : Go.Vse.compFn Go.Proofs.Tryz.prog pur Go.Proofs.Tryz.f145 = some g145 := by kernel_rfl
theorem c149 : Go.Vse.compFn Go.Proofs.Tryz.prog pur Go.Proofs.Tryz.f149 = some g149 := by kernel_rfl
theorem c157 : Go.Vse.compFn Go.Proofs.Tryz.prog pur Go.Proofs.Tryz.f157 = some g157 := by kernel_rfl
theorem c167 : Go.Vse.compFn Go.Proofs.Tryz.prog pur Go.Proofs.Tryz.f167 = some g167 := by kernel_rfl
theorem c175 : Go.Vse.compFn Go.Proofs.Tryz.prog pur Go.Proofs.Tryz.f175 = some g175 := by kernel_rfl
theorem c179 : Go.Vse.compFn Go.Proofs.Tryz.prog pur Go.Proofs.Tryz.f179 = some g179 := by kernel_rfl
end Go.Proofs.YtffjpakgkecheaaGreat
