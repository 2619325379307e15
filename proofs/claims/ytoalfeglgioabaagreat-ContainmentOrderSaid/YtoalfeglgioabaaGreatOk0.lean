/- The resolved code is what the compiler makes of the program. Written by program. -/
import Derived.Test.YtoalfeglgioabaaGreatProg
import Derived.Test.YtoalfeglgioabaaGreatPr
import Derived.KernelRfl
set_option linter.all false
namespace Go.Proofs.YtoalfeglgioabaaGreat
open Go.Vse
open Go (BinOp IntKind UnOp)
set_option maxRecDepth 100000
theorem c4 : Go.Vse.compFn Go.Proofs.Tryz.prog pur Go.Proofs.Tryz.f4 = some g4 := by kernel_rfl
theorem c14 : Go.Vse.compFn Go.Proofs.Tryz.prog pur Go.Proofs.Tryz.f14 = some g14 := by kernel_rfl
theorem c28 : Go.Vse.compFn Go.Proofs.Tryz.prog pur Go.Proofs.Tryz.f28 = some g28 := by kernel_rfl
theorem c32 : Go.Vse.compFn Go.Proofs.Tryz.prog pur Go.Proofs.Tryz.f32 = some g32 := by kernel_rfl
theorem c39 : Go.Vse.compFn Go.Proofs.Tryz.prog pur Go.Proofs.Tryz.f39 = some g39 := by kernel_rfl
theorem c44 : Go.Vse.compFn Go.Proofs.Tryz.prog pur Go.Proofs.Tryz.f44 = some g44 := by kernel_rfl
theorem c55 : Go.Vse.compFn Go.Proofs.Tryz.prog pur Go.Proofs.Tryz.f55 = some g55 := by kernel_rfl
theorem c59 : Go.Vse.compFn Go.Proofs.Tryz.prog pur Go.Proofs.Tryz.f59 = some g59 := by kernel_rfl
theorem c63 : Go.Vse.compFn Go.Proofs.Tryz.prog pur Go.Proofs.Tryz.f63 = some g63 := by kernel_rfl
theorem c67 : Go.Vse.compFn Go.Proofs.Tryz.prog pur Go.Proofs.Tryz.f67 = some g67 := by kernel_rfl
theorem c71 : Go.Vse.compFn Go.Proofs.Tryz.prog pur Go.Proofs.Tryz.f71 = some g71 := by kernel_rfl
theorem c79 : Go.Vse.compFn Go.Proofs.Tryz.prog pur Go.Proofs.Tryz.f79 = some g79 := by kernel_rfl
theorem c83 : Go.Vse.compFn Go.Proofs.Tryz.prog pur Go.Proofs.Tryz.f83 = some g83 := by kernel_rfl
theorem c90 : Go.Vse.compFn Go.Proofs.Tryz.prog pur Go.Proofs.Tryz.f90 = some g90 := by kernel_rfl
theorem c94 : Go.Vse.compFn Go.Proofs.Tryz.prog pur Go.Proofs.Tryz.f94 = some g94 := by kernel_rfl
theorem c98 : Go.Vse.compFn Go.Proofs.Tryz.prog pur Go.Proofs.Tryz.f98 = some g98 := by kernel_rfl
theorem c109 : Go.Vse.compFn Go.Proofs.Tryz.prog pur Go.Proofs.Tryz.f109 = some g109 := by kernel_rfl
theorem c115 : Go.Vse.compFn Go.Proofs.Tryz.prog pur Go.Proofs.Tryz.f115 = some g115 := by kernel_rfl
theorem c119 : Go.Vse.compFn Go.Proofs.Tryz.prog pur Go.Proofs.Tryz.f119 = some g119 := by kernel_rfl
theorem c123 : Go.Vse.compFn Go.Proofs.Tryz.prog pur Go.Proofs.Tryz.f123 = some g123 := by kernel_rfl
theorem c127 : Go.Vse.compFn Go.Proofs.Tryz.prog pur Go.Proofs.Tryz.f127 = some g127 := by kernel_rfl
theorem c134 : Go.Vse.compFn Go.Proofs.Tryz.prog pur Go.Proofs.Tryz.f134 = some g134 := by kernel_rfl
theorem c138 : Go.Vse.compFn Go.Proofs.Tryz.prog pur Go.Proofs.Tryz.f138 = some g138 := by kernel_rfl
theorem c143 : Go.Vse.compFn Go.Proofs.Tryz.prog pur Go.Proofs.Tryz.f143 = some g143 := by kernel_rfl
theorem c147 : Go.Vse.compFn Go.Proofs.Tryz.prog pur Go.Proofs.Tryz.f147 = some g147 := by kernel_rfl
theorem c152 : Go.Vse.compFn Go.Proofs.Tryz.prog pur Go.Proofs.Tryz.f152 = some g152 := by kernel_rfl
theorem c156 : Go.Vse.compFn Go.Proofs.Tryz.prog pur Go.Proofs.Tryz.f156 = some g156 := by kernel_rfl
theorem c160 : Go.Vse.compFn Go.Proofs.Tryz.prog pur Go.Proofs.Tryz.f160 = some g160 := by kernel_rfl
theorem c164 : Go.Vse.compFn Go.Proofs.Tryz.prog pur Go.Proofs.Tryz.f164 = some g164 := by kernel_rfl
theorem c168 : Go.Vse.compFn Go.Proofs.Tryz.prog pur Go.Proofs.Tryz.f168 = some g168 := by kernel_rfl
theorem c172 : Go.Vse.compFn Go.Proofs.Tryz.prog pur Go.Proofs.Tryz.f172 = some g172 := by kernel_rfl
theorem c176 : Go.Vse.compFn Go.Proofs.Tryz.prog pur Go.Proofs.Tryz.f176 = some g176 := by kernel_rfl
end Go.Proofs.YtoalfeglgioabaaGreat
