/- The resolved code is what the compiler makes of the program. Written by program. -/
import Derived.Test.YtoalfeglgioabaaGreatProg
import Derived.Test.YtoalfeglgioabaaGreatPr
import Derived.KernelRfl
set_option linter.all false
namespace Go.Proofs.YtoalfeglgioabaaGreat
open Go.Vse
open Go (BinOp IntKind UnOp)
set_option maxRecDepth 100000
theorem c8 : Go.Vse.compFn Go.Proofs.Tryz.prog pur Go.Proofs.Tryz.f8 = some g8 := by kernel_rfl
theorem c20 : Go.Vse.compFn Go.Proofs.Tryz.prog pur Go.Proofs.Tryz.f20 = some g20 := by kernel_rfl
theorem c29 : Go.Vse.compFn Go.Proofs.Tryz.prog pur Go.Proofs.Tryz.f29 = some g29 := by kernel_rfl
theorem c36 : Go.Vse.compFn Go.Proofs.Tryz.prog pur Go.Proofs.Tryz.f36 = some g36 := by kernel_rfl
theorem c40 : Go.Vse.compFn Go.Proofs.Tryz.prog pur Go.Proofs.Tryz.f40 = some g40 := by kernel_rfl
theorem c46 : Go.Vse.compFn Go.Proofs.Tryz.prog pur Go.Proofs.Tryz.f46 = some g46 := by kernel_rfl
theorem c56 : Go.Vse.compFn Go.Proofs.Tryz.prog pur Go.Proofs.Tryz.f56 = some g56 := by kernel_rfl
theorem c60 : Go.Vse.compFn Go.Proofs.Tryz.prog pur Go.Proofs.Tryz.f60 = some g60 := by kernel_rfl
theorem c64 : Go.Vse.compFn Go.Proofs.Tryz.prog pur Go.Proofs.Tryz.f64 = some g64 := by kernel_rfl
theorem c68 : Go.Vse.compFn Go.Proofs.Tryz.prog pur Go.Proofs.Tryz.f68 = some g68 := by kernel_rfl
theorem c72 : Go.Vse.compFn Go.Proofs.Tryz.prog pur Go.Proofs.Tryz.f72 = some g72 := by kernel_rfl
theorem c80 : Go.Vse.compFn Go.Proofs.Tryz.prog pur Go.Proofs.Tryz.f80 = some g80 := by kernel_rfl
theorem c87 : Go.Vse.compFn Go.Proofs.Tryz.prog pur Go.Proofs.Tryz.f87 = some g87 := by kernel_rfl
theorem c91 : Go.Vse.compFn Go.Proofs.Tryz.prog pur Go.Proofs.Tryz.f91 = some g91 := by kernel_rfl
theorem c95 : Go.Vse.compFn Go.Proofs.Tryz.prog pur Go.Proofs.Tryz.f95 = some g95 := by kernel_rfl
theorem c106 : Go.Vse.compFn Go.Proofs.Tryz.prog pur Go.Proofs.Tryz.f106 = some g106 := by kernel_rfl
theorem c110 : Go.Vse.compFn Go.Proofs.Tryz.prog pur Go.Proofs.Tryz.f110 = some g110 := by kernel_rfl
theorem c116 : Go.Vse.compFn Go.Proofs.Tryz.prog pur Go.Proofs.Tryz.f116 = some g116 := by kernel_rfl
theorem c120 : Go.Vse.compFn Go.Proofs.Tryz.prog pur Go.Proofs.Tryz.f120 = some g120 := by kernel_rfl
theorem c124 : Go.Vse.compFn Go.Proofs.Tryz.prog pur Go.Proofs.Tryz.f124 = some g124 := by kernel_rfl
theorem c128 : Go.Vse.compFn Go.Proofs.Tryz.prog pur Go.Proofs.Tryz.f128 = some g128 := by kernel_rfl
theorem c135 : Go.Vse.compFn Go.Proofs.Tryz.prog pur Go.Proofs.Tryz.f135 = some g135 := by kernel_rfl
theorem c139 : Go.Vse.compFn Go.Proofs.Tryz.prog pur Go.Proofs.Tryz.f139 = some g139 := by kernel_rfl
theorem c144 : Go.Vse.compFn Go.Proofs.Tryz.prog pur Go.Proofs.Tryz.f144 = some g144 := by kernel_rfl
theorem c149 : Go.Vse.compFn Go.Proofs.Tryz.prog pur Go.Proofs.Tryz.f149 = some g149 := by kernel_rfl
theorem c153 : Go.Vse.compFn Go.Proofs.Tryz.prog pur Go.Proofs.Tryz.f153 = some g153 := by kernel_rfl
theorem c157 : Go.Vse.compFn Go.Proofs.Tryz.prog pur Go.Proofs.Tryz.f157 = some g157 := by kernel_rfl
theorem c161 : Go.Vse.compFn Go.Proofs.Tryz.prog pur Go.Proofs.Tryz.f161 = some g161 := by kernel_rfl
theorem c165 : Go.Vse.compFn Go.Proofs.Tryz.prog pur Go.Proofs.Tryz.f165 = some g165 := by kernel_rfl
theorem c169 : Go.Vse.compFn Go.Proofs.Tryz.prog pur Go.Proofs.Tryz.f169 = some g169 := by kernel_rfl
theorem c173 : Go.Vse.compFn Go.Proofs.Tryz.prog pur Go.Proofs.Tryz.f173 = some g173 := by kernel_rfl
theorem c177 : Go.Vse.compFn Go.Proofs.Tryz.prog pur Go.Proofs.Tryz.f177 = some g177 := by kernel_rfl
end Go.Proofs.YtoalfeglgioabaaGreat
