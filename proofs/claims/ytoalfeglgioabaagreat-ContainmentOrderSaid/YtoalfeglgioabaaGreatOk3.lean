/- The resolved code is what the compiler makes of the program. Written by program. -/
import Derived.Test.YtoalfeglgioabaaGreatProg
import Derived.Test.YtoalfeglgioabaaGreatPr
import Derived.KernelRfl
set_option linter.all false
namespace Go.Proofs.YtoalfeglgioabaaGreat
open Go.Vse
open Go (BinOp IntKind UnOp)
set_option maxRecDepth 100000
theorem c13 : Go.Vse.compFn Go.Proofs.Tryz.prog pur Go.Proofs.Tryz.f13 = some g13 := by kernel_rfl
theorem c27 : Go.Vse.compFn Go.Proofs.Tryz.prog pur Go.Proofs.Tryz.f27 = some g27 := by kernel_rfl
theorem c31 : Go.Vse.compFn Go.Proofs.Tryz.prog pur Go.Proofs.Tryz.f31 = some g31 := by kernel_rfl
theorem c38 : Go.Vse.compFn Go.Proofs.Tryz.prog pur Go.Proofs.Tryz.f38 = some g38 := by kernel_rfl
theorem c42 : Go.Vse.compFn Go.Proofs.Tryz.prog pur Go.Proofs.Tryz.f42 = some g42 := by kernel_rfl
theorem c48 : Go.Vse.compFn Go.Proofs.Tryz.prog pur Go.Proofs.Tryz.f48 = some g48 := by kernel_rfl
theorem c58 : Go.Vse.compFn Go.Proofs.Tryz.prog pur Go.Proofs.Tryz.f58 = some g58 := by kernel_rfl
theorem c62 : Go.Vse.compFn Go.Proofs.Tryz.prog pur Go.Proofs.Tryz.f62 = some g62 := by kernel_rfl
theorem c66 : Go.Vse.compFn Go.Proofs.Tryz.prog pur Go.Proofs.Tryz.f66 = some g66 := by kernel_rfl
theorem c70 : Go.Vse.compFn Go.Proofs.Tryz.prog pur Go.Proofs.Tryz.f70 = some g70 := by kernel_rfl
theorem c78 : Go.Vse.compFn Go.Proofs.Tryz.prog pur Go.Proofs.Tryz.f78 = some g78 := by kernel_rfl
theorem c82 : Go.Vse.compFn Go.Proofs.Tryz.prog pur Go.Proofs.Tryz.f82 = some g82 := by kernel_rfl
theorem c89 : Go.Vse.compFn Go.Proofs.Tryz.prog pur Go.Proofs.Tryz.f89 = some g89 := by kernel_rfl
theorem c93 : Go.Vse.compFn Go.Proofs.Tryz.prog pur Go.Proofs.Tryz.f93 = some g93 := by kernel_rfl
theorem c97 : Go.Vse.compFn Go.Proofs.Tryz.prog pur Go.Proofs.Tryz.f97 = some g97 := by kernel_rfl
theorem c108 : Go.Vse.compFn Go.Proofs.Tryz.prog pur Go.Proofs.Tryz.f108 = some g108 := by kernel_rfl
theorem c112 : Go.Vse.compFn Go.Proofs.Tryz.prog pur Go.Proofs.Tryz.f112 = some g112 := by kernel_rfl
theorem c118 : Go.Vse.compFn Go.Proofs.Tryz.prog pur Go.Proofs.Tryz.f118 = some g118 := by kernel_rfl
theorem c122 : Go.Vse.compFn Go.Proofs.Tryz.prog pur Go.Proofs.Tryz.f122 = some g122 := by kernel_rfl
theorem c126 : Go.Vse.compFn Go.Proofs.Tryz.prog pur Go.Proofs.Tryz.f126 = some g126 := by kernel_rfl
theorem c133 : Go.Vse.compFn Go.Proofs.Tryz.prog pur Go.Proofs.Tryz.f133 = some g133 := by kernel_rfl
theorem c137 : Go.Vse.compFn Go.Proofs.Tryz.prog pur Go.Proofs.Tryz.f137 = some g137 := by kernel_rfl
theorem c142 : Go.Vse.compFn Go.Proofs.Tryz.prog pur Go.Proofs.Tryz.f142 = some g142 := by kernel_rfl
theorem c146 : Go.Vse.compFn Go.Proofs.Tryz.prog pur Go.Proofs.Tryz.f146 = some g146 := by kernel_rfl
theorem c151 : Go.Vse.compFn Go.Proofs.Tryz.prog pur Go.Proofs.Tryz.f151 = some g151 := by kernel_rfl
theorem c155 : Go.Vse.compFn Go.Proofs.Tryz.prog pur Go.Proofs.Tryz.f155 = some g155 := by kernel_rfl
theorem c159 : Go.Vse.compFn Go.Proofs.Tryz.prog pur Go.Proofs.Tryz.f159 = some g159 := by kernel_rfl
theorem c163 : Go.Vse.compFn Go.Proofs.Tryz.prog pur Go.Proofs.Tryz.f163 = some g163 := by kernel_rfl
theorem c167 : Go.Vse.compFn Go.Proofs.Tryz.prog pur Go.Proofs.Tryz.f167 = some g167 := by kernel_rfl
theorem c171 : Go.Vse.compFn Go.Proofs.Tryz.prog pur Go.Proofs.Tryz.f171 = some g171 := by kernel_rfl
theorem c175 : Go.Vse.compFn Go.Proofs.Tryz.prog pur Go.Proofs.Tryz.f175 = some g175 := by kernel_rfl
theorem c179 : Go.Vse.compFn Go.Proofs.Tryz.prog pur Go.Proofs.Tryz.f179 = some g179 := by kernel_rfl
end Go.Proofs.YtoalfeglgioabaaGreat
