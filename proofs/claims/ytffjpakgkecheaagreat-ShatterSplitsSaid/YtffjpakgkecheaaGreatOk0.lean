/- The resolved code is what the compiler makes of the program. Written by program. -/
import Derived.Test.YtffjpakgkecheaaGreatProg
import Derived.Test.YtffjpakgkecheaaGreatPr
import Derived.KernelRfl
set_option linter.all false
namespace Go.Proofs.YtffjpakgkecheaaGreat
open Go.Vse
open Go (BinOp IntKind UnOp)
set_option maxRecDepth 100000
theorem c3 : Go.Vse.compFn Go.Proofs.Tryz.prog pur Go.Proofs.Tryz.f3 = some g3 := by kernel_rfl
theorem c7 : Go.Vse.compFn Go.Proofs.Tryz.prog pur Go.Proofs.Tryz.f7 = some g7 := by kernel_rfl
theorem c11 : Go.Vse.compFn Go.Proofs.Tryz.prog pur Go.Proofs.Tryz.f11 = some g11 := by kernel_rfl
theorem c15 : Go.Vse.compFn Go.Proofs.Tryz.prog pur Go.Proofs.Tryz.f15 = some g15 := by kernel_rfl
theorem c19 : Go.Vse.compFn Go.Proofs.Tryz.prog pur Go.Proofs.Tryz.f19 = some g19 := by kernel_rfl
theorem c23 : Go.Vse.compFn Go.Proofs.Tryz.prog pur Go.Proofs.Tryz.f23 = some g23 := by kernel_rfl
theorem c27 : Go.Vse.compFn Go.Proofs.Tryz.prog pur Go.Proofs.Tryz.f27 = some g27 := by kernel_rfl
theorem c31 : Go.Vse.compFn Go.Proofs.Tryz.prog pur Go.Proofs.Tryz.f31 = some g31 := by kernel_rfl
theorem c35 : Go.Vse.compFn Go.Proofs.Tryz.prog pur Go.Proofs.Tryz.f35 = some g35 := by kernel_rfl
theorem c39 : Go.Vse.compFn Go.Proofs.Tryz.prog pur Go.Proofs.Tryz.f39 = some g39 := by kernel_rfl
theorem c43 : Go.Vse.compFn Go.Proofs.Tryz.prog pur Go.Proofs.Tryz.f43 = some g43 := by kernel_rfl
theorem c47 : Go.Vse.compFn Go.Proofs.Tryz.prog pur Go.Proofs.Tryz.f47 = some g47 := by kernel_rfl
theorem c52 : Go.Vse.compFn Go.Proofs.Tryz.prog pur Go.Proofs.Tryz.f52 = some g52 := by kernel_rfl
theorem c56 : Go.Vse.compFn Go.Proofs.Tryz.prog pur Go.Proofs.Tryz.f56 = some g56 := by kernel_rfl
theorem c60 : Go.Vse.compFn Go.Proofs.Tryz.prog pur Go.Proofs.Tryz.f60 = some g60 := by kernel_rfl
theorem c64 : Go.Vse.compFn Go.Proofs.Tryz.prog pur Go.Proofs.Tryz.f64 = some g64 := by kernel_rfl
theorem c69 : Go.Vse.compFn Go.Proofs.Tryz.prog pur Go.Proofs.Tryz.f69 = some g69 := by kernel_rfl
theorem c73 : Go.Vse.compFn Go.Proofs.Tryz.prog pur Go.Proofs.Tryz.f73 = some g73 := by kernel_rfl
theorem c77 : Go.Vse.compFn Go.Proofs.Tryz.prog pur Go.Proofs.Tryz.f77 = some g77 := by kernel_rfl
theorem c81 : Go.Vse.compFn Go.Proofs.Tryz.prog pur Go.Proofs.Tryz.f81 = some g81 := by kernel_rfl
theorem c86 : Go.Vse.compFn Go.Proofs.Tryz.prog pur Go.Proofs.Tryz.f86 = some g86 := by kernel_rfl
theorem c90 : Go.Vse.compFn Go.Proofs.Tryz.prog pur Go.Proofs.Tryz.f90 = some g90 := by kernel_rfl
theorem c94 : Go.Vse.compFn Go.Proofs.Tryz.prog pur Go.Proofs.Tryz.f94 = some g94 := by kernel_rfl
theorem c98 : Go.Vse.compFn Go.Proofs.Tryz.prog pur Go.Proofs.Tryz.f98 = some g98 := by kernel_rfl
theorem c102 : Go.Vse.compFn Go.Proofs.Tryz.prog pur Go.Proofs.Tryz.f102 = some g102 := by kernel_rfl
theorem c106 : Go.Vse.compFn Go.Proofs.Tryz.prog pur Go.Proofs.Tryz.f106 = some g106 := by kernel_rfl
theorem c110 : Go.Vse.compFn Go.Proofs.Tryz.prog pur Go.Proofs.Tryz.f110 = some g110 := by kernel_rfl
theorem c114 : Go.Vse.compFn Go.Proofs.Tryz.prog pur Go.Proofs.Tryz.f114 = some g114 := by kernel_rfl
theorem c118 : Go.Vse.compFn Go.Proofs.Tryz.prog pur Go.Proofs.Tryz.f118 = some g118 := by kernel_rfl
theorem c126 : Go.Vse.compFn Go.Proofs.Tryz.prog pur Go.Proofs.Tryz.f126 = some g126 := by kernel_rfl
theorem c130 : Go.Vse.compFn Go.Proofs.Tryz.prog pur Go.Proofs.Tryz.f130 = some g130 := by kernel_rfl
theorem c143 : Go.Vse.compFn Go.Proofs.Tryz.prog pur Go.Proofs.Tryz.f143 = some g143 := by kernel_rfl
theorem c147 : Go.Vse.compFn Go.Proofs.Tryz.prog pur Go.Proofs.Tryz.f147 = some g147 := by kernel_rfl
theorem c151 : Go.Vse.compFn Go.Proofs.Tryz.prog pur Go.Proofs.Tryz.f151 = some g151 := by kernel_rfl
theorem c165 : Go.Vse.compFn Go.Proofs.Tryz.prog pur Go.Proofs.Tryz.f165 = some g165 := by kernel_rfl
theorem c173 : Go.Vse.compFn Go.Proofs.Tryz.prog pur Go.Proofs.Tryz.f173 = some g173 := by kernel_rfl
theorem c177 : Go.Vse.compFn Go.Proofs.Tryz.prog pur Go.Proofs.Tryz.f177 = some g177 := by kernel_rfl
end Go.Proofs.YtffjpakgkecheaaGreat
