/- The resolved code is what the compiler makes of the program. Written by program. -/
import Derived.Test.YtoalfeglgioabaaGreatProg
import Derived.Test.YtoalfeglgioabaaGreatPr
import Derived.KernelRfl
set_option linter.all false
namespace Go.Proofs.YtoalfeglgioabaaGreat
open Go.Vse
open Go (BinOp IntKind UnOp)
set_option maxRecDepth 100000
theorem c12 : Go.Vse.compFn Go.Proofs.Tryz.prog pur Go.Proofs.Tryz.f12 = some g12 := by kernel_rfl
theorem c26 : Go.Vse.compFn Go.Proofs.Tryz.prog pur Go.Proofs.Tryz.f26 = some g26 := by kernel_rfl
theorem c30 : Go.Vse.compFn Go.Proofs.Tryz.prog pur Go.Proofs.Tryz.f30 = some g30 := by kernel_rfl
theorem c37 : Go.Vse.compFn Go.Proofs.Tryz.prog pur Go.Proofs.Tryz.f37 = some g37 := by kernel_rfl
theorem c41 : Go.Vse.compFn Go.Proofs.Tryz.prog pur Go.Proofs.Tryz.f41 = some g41 := by kernel_rfl
theorem c47 : Go.Vse.compFn Go.Proofs.Tryz.prog pur Go.Proofs.Tryz.f47 = some g47 := by kernel_rfl
theorem c57 : Go.Vse.compFn Go.Proofs.Tryz.prog pur Go.Proofs.Tryz.f57 = some g57 := by kernel_rfl
theorem c61 : Go.Vse.compFn Go.Proofs.Tryz.prog pur Go.Proofs.Tryz.f61 = some g61 := by kernel_rfl
theorem c65 : Go.Vse.compFn Go.Proofs.Tryz.prog pur Go.Proofs.Tryz.f65 = some g65 := by kernel_rfl
theorem c69 : Go.Vse.compFn Go.Proofs.Tryz.prog pur Go.Proofs.Tryz.f69 = some g69 := by kernel_rfl
theorem c77 : Go.Vse.compFn Go.Proofs.Tryz.prog pur Go.Proofs.Tryz.f77 = some g77 := by kernel_rfl
theorem c81 : Go.Vse.compFn Go.Proofs.Tryz.prog pur Go.Proofs.Tryz.f81 = some g81 := by kernel_rfl
theorem c88 : Go.Vse.compFn Go.Proofs.Tryz.prog pur Go.Proofs.Tryz.f88 = some g88 := by kernel_rfl
theorem c92 : Go.Vse.compFn Go.Proofs.Tryz.prog pur Go.Proofs.Tryz.f92 = some g92 := by kernel_rfl
theorem c96 : Go.Vse.compFn Go.Proofs.Tryz.prog pur Go.Proofs.Tryz.f96 = some g96 := by kernel_rfl
theorem c107 : Go.Vse.compFn Go.Proofs.Tryz.prog pur Go.Proofs.Tryz.f107 = some g107 := by kernel_rfl
theorem c111 : Go.Vse.compFn Go.Proofs.Tryz.prog pur Go.Proofs.Tryz.f111 = some g111 := by kernel_rfl
theorem c117 : Go.Vse.compFn Go.Proofs.Tryz.prog pur Go.Proofs.Tryz.f117 = some g117 := by kernel_rfl
theorem c121 : Go.Vse.compFn Go.Proofs.Tryz.prog pur Go.Proofs.Tryz.f121 = some g121 := by kernel_rfl
theorem c125 : Go.Vse.compFn Go.Proofs.Tryz.prog pur Go.Proofs.Tryz.f125 = some g125 := by kernel_rfl
theorem c130 : Go.Vse.compFn Go.Proofs.Tryz.prog pur Go.Proofs.Tryz.f130 = some g130 := by kernel_rfl
theorem c136 : Go.Vse.compFn Go.Proofs.Tryz.prog pur Go.Proofs.Tryz.f136 = some g136 := by kernel_rfl
theorem c141 : Go.Vse.compFn Go.Proofs.Tryz.prog pur Go.Proofs.Tryz.f141 = some g141 := by kernel_rfl
theorem c145 : Go.Vse.compFn Go.Proofs.Tryz.prog pur Go.Proofs.Tryz.f145 = some g145 := by kernel_rfl
theorem c150 : Go.Vse.compFn Go.Proofs.Tryz.prog pur Go.Proofs.Tryz.f150 = some g150 := by kernel_rfl
theorem c154 : Go.Vse.compFn Go.Proofs.Tryz.prog pur Go.Proofs.Tryz.f154 = some g154 := by kernel_rfl
theorem c158 : Go.Vse.compFn Go.Proofs.Tryz.prog pur Go.Proofs.Tryz.f158 = some g158 := by kernel_rfl
theorem c162 : Go.Vse.compFn Go.Proofs.Tryz.prog pur Go.Proofs.Tryz.f162 = some g162 := by kernel_rfl
theorem c166 : Go.Vse.compFn Go.Proofs.Tryz.prog pur Go.Proofs.Tryz.f166 = some g166 := by kernel_rfl
theorem c170 : Go.Vse.compFn Go.Proofs.Tryz.prog pur Go.Proofs.Tryz.f170 = some g170 := by kernel_rfl
theorem c174 : Go.Vse.compFn Go.Proofs.Tryz.prog pur Go.Proofs.Tryz.f174 = some g174 := by kernel_rfl
theorem c178 : Go.Vse.compFn Go.Proofs.Tryz.prog pur Go.Proofs.Tryz.f178 = some g178 := by kernel_rfl
end Go.Proofs.YtoalfeglgioabaaGreat
