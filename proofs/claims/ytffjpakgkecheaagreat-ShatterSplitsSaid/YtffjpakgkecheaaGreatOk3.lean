/- The resolved code is what the compiler makes of the program. Written by program. -/
import Derived.Test.YtffjpakgkecheaaGreatProg
import Derived.Test.YtffjpakgkecheaaGreatPr
import Derived.KernelRfl
set_option linter.all false
namespace Go.Proofs.YtffjpakgkecheaaGreat
open Go.Vse
open Go (BinOp IntKind UnOp)
set_option maxRecDepth 100000
theorem c6 : Go.Vse.compFn Go.Proofs.Tryz.prog pur Go.Proofs.Tryz.f6 = some g6 := by kernel_rfl
theorem c10 : Go.Vse.compFn Go.Proofs.Tryz.prog pur Go.Proofs.Tryz.f10 = some g10 := by kernel_rfl
theorem c14 : Go.Vse.compFn Go.Proofs.Tryz.prog pur Go.Proofs.Tryz.f14 = some g14 := by kernel_rfl
theorem c18 : Go.Vse.compFn Go.Proofs.Tryz.prog pur Go.Proofs.Tryz.f18 = some g18 := by kernel_rfl
theorem c22 : Go.Vse.compFn Go.Proofs.Tryz.prog pur Go.Proofs.Tryz.f22 = some g22 := by kernel_rfl
theorem c26 : Go.Vse.compFn Go.Proofs.Tryz.prog pur Go.Proofs.Tryz.f26 = some g26 := by kernel_rfl
theorem c30 : Go.Vse.compFn Go.Proofs.Tryz.prog pur Go.Proofs.Tryz.f30 = some g30 := by kernel_rfl
theorem c34 : Go.Vse.compFn Go.Proofs.Tryz.prog pur Go.Proofs.Tryz.f34 = some g34 := by kernel_rfl
theorem c38 : Go.Vse.compFn Go.Proofs.Tryz.prog pur Go.Proofs.Tryz.f38 = some g38 := by kernel_rfl
theorem c42 : Go.Vse.compFn Go.Proofs.Tryz.prog pur Go.Proofs.Tryz.f42 = some g42 := by kernel_rfl
theorem c46 : Go.Vse.compFn Go.Proofs.Tryz.prog pur Go.Proofs.Tryz.f46 = some g46 := by kernel_rfl
theorem c51 : Go.Vse.compFn Go.Proofs.Tryz.prog pur Go.Proofs.Tryz.f51 = some g51 := by kernel_rfl
theorem c55 : Go.Vse.compFn Go.Proofs.Tryz.prog pur Go.Proofs.Tryz.f55 = some g55 := by kernel_rfl
theorem c59 : Go.Vse.compFn Go.Proofs.Tryz.prog pur Go.Proofs.Tryz.f59 = some g59 := by kernel_rfl
theorem c63 : Go.Vse.compFn Go.Proofs.Tryz.prog pur Go.Proofs.Tryz.f63 = some g63 := by kernel_rfl
theorem c68 : Go.Vse.compFn Go.Proofs.Tryz.prog pur Go.Proofs.Tryz.f68 = some g68 := by kernel_rfl
theorem c72 : Go.Vse.compFn Go.Proofs.Tryz.prog pur Go.Proofs.Tryz.f72 = some g72 := by kernel_rfl
theorem c76 : Go.Vse.compFn Go.Proofs.Tryz.prog pur Go.Proofs.Tryz.f76 = some g76 := by kernel_rfl
theorem c80 : Go.Vse.compFn Go.Proofs.Tryz.prog pur Go.Proofs.Tryz.f80 = some g80 := by kernel_rfl
theorem c85 : Go.Vse.compFn Go.Proofs.Tryz.prog pur Go.Proofs.Tryz.f85 = some g85 := by kernel_rfl
theorem c89 : Go.Vse.compFn Go.Proofs.Tryz.prog pur Go.Proofs.Tryz.f89 = some g89 := by kernel_rfl
theorem c93 : Go.Vse.compFn Go.Proofs.Tryz.prog pur Go.Proofs.Tryz.f93 = some g93 := by kernel_rfl
theorem c97 : Go.Vse.compFn Go.Proofs.Tryz.prog pur Go.Proofs.Tryz.f97 = some g97 := by kernel_rfl
theorem c101 : Go.Vse.compFn Go.Proofs.Tryz.prog pur Go.Proofs.Tryz.f101 = some g101 := by kernel_rfl
theorem c105 : Go.Vse.compFn Go.Proofs.Tryz.prog pur Go.Proofs.Tryz.f105 = some g105 := by kernel_rfl
theorem c109 : Go.Vse.compFn Go.Proofs.Tryz.prog pur Go.Proofs.Tryz.f109 = some g109 := by kernel_rfl
theorem c113 : Go.Vse.compFn Go.Proofs.Tryz.prog pur Go.Proofs.Tryz.f113 = some g113 := by kernel_rfl
theorem c117 : Go.Vse.compFn Go.Proofs.Tryz.prog pur Go.Proofs.Tryz.f117 = some g117 := by kernel_rfl
theorem c125 : Go.Vse.compFn Go.Proofs.Tryz.prog pur Go.Proofs.Tryz.f125 = some g125 := by kernel_rfl
theorem c129 : Go.Vse.compFn Go.Proofs.Tryz.prog pur Go.Proofs.Tryz.f129 = some g129 := by kernel_rfl
theorem c141 : Go.Vse.compFn Go.Proofs.Tryz.prog pur Go.Proofs.Tryz.f141 = some g141 := by kernel_rfl
theorem c146 : Go.Vse.compFn Go.Proofs.Tryz.prog pur Go.Proofs.Tryz.f146 = some g146 := by kernel_rfl
theorem c150 : Go.Vse.compFn Go.Proofs.Tryz.prog pur Go.Proofs.Tryz.f150 = some g150 := by kernel_rfl
theorem c158 : Go.Vse.compFn Go.Proofs.Tryz.prog pur Go.Proofs.Tryz.f158 = some g158 := by kernel_rfl
theorem c171 : Go.Vse.compFn Go.Proofs.Tryz.prog pur Go.Proofs.Tryz.f171 = some g171 := by kernel_rfl
theorem c176 : Go.Vse.compFn Go.Proofs.Tryz.prog pur Go.Proofs.Tryz.f176 = some g176 := by kernel_rfl
end Go.Proofs.YtffjpakgkecheaaGreat
