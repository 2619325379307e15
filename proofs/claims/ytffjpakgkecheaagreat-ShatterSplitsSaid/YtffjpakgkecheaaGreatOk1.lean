/- The resolved code is what the compiler makes of the program. Written by program. -/
import Derived.Test.YtffjpakgkecheaaGreatProg
import Derived.Test.YtffjpakgkecheaaGreatPr
import Derived.KernelRfl
set_option linter.all false
namespace Go.Proofs.YtffjpakgkecheaaGreat
open Go.Vse
open Go (BinOp IntKind UnOp)
set_option maxRecDepth 100000
theorem c4 : Go.Vse.compFn Go.Proofs.Tryz.prog pur Go.Proofs.Tryz.f4 = some g4 := by kernel_rfl
theorem c8 : Go.Vse.compFn Go.Proofs.Tryz.prog pur Go.Proofs.Tryz.f8 = some g8 := by kernel_rfl
theorem c12 : Go.Vse.compFn Go.Proofs.Tryz.prog pur Go.Proofs.Tryz.f12 = some g12 := by kernel_rfl
theorem c16 : Go.Vse.compFn Go.Proofs.Tryz.prog pur Go.Proofs.Tryz.f16 = some g16 := by kernel_rfl
theorem c20 : Go.Vse.compFn Go.Proofs.Tryz.prog pur Go.Proofs.Tryz.f20 = some g20 := by kernel_rfl
theorem c24 : Go.Vse.compFn Go.Proofs.Tryz.prog pur Go.Proofs.Tryz.f24 = some g24 := by kernel_rfl
theorem c28 : Go.Vse.compFn Go.Proofs.Tryz.prog pur Go.Proofs.Tryz.f28 = some g28 := by kernel_rfl
theorem c32 : Go.Vse.compFn Go.Proofs.Tryz.prog pur Go.Proofs.Tryz.f32 = some g32 := by kernel_rfl
theorem c36 : Go.Vse.compFn Go.Proofs.Tryz.prog pur Go.Proofs.Tryz.f36 = some g36 := by kernel_rfl
theorem c40 : Go.Vse.compFn Go.Proofs.Tryz.prog pur Go.Proofs.Tryz.f40 = some g40 := by kernel_rfl
theorem c44 : Go.Vse.compFn Go.Proofs.Tryz.prog pur Go.Proofs.Tryz.f44 = some g44 := by kernel_rfl
theorem c48 : Go.Vse.compFn Go.Proofs.Tryz.prog pur Go.Proofs.Tryz.f48 = some g48 := by kernel_rfl
theorem c53 : Go.Vse.compFn Go.Proofs.Tryz.prog pur Go.Proofs.Tryz.f53 = some g53 := by kernel_rfl
theorem c57 : Go.Vse.compFn Go.Proofs.Tryz.prog pur Go.Proofs.Tryz.f57 = some g57 := by kernel_rfl
theorem c61 : Go.Vse.compFn Go.Proofs.Tryz.prog pur Go.Proofs.Tryz.f61 = some g61 := by kernel_rfl
theorem c66 : Go.Vse.compFn Go.Proofs.Tryz.prog pur Go.Proofs.Tryz.f66 = some g66 := by kernel_rfl
theorem c70 : Go.Vse.compFn Go.Proofs.Tryz.prog pur Go.Proofs.Tryz.f70 = some g70 := by kernel_rfl
theorem c74 : Go.Vse.compFn Go.Proofs.Tryz.prog pur Go.Proofs.Tryz.f74 = some g74 := by kernel_rfl
theorem c78 : Go.Vse.compFn Go.Proofs.Tryz.prog pur Go.Proofs.Tryz.f78 = some g78 := by kernel_rfl
theorem c82 : Go.Vse.compFn Go.Proofs.Tryz.prog pur Go.Proofs.Tryz.f82 = some g82 := by kernel_rfl
theorem c87 : Go.Vse.compFn Go.Proofs.Tryz.prog pur Go.Proofs.Tryz.f87 = some g87 := by kernel_rfl
theorem c91 : Go.Vse.compFn Go.Proofs.Tryz.prog pur Go.Proofs.Tryz.f91 = some g91 := by kernel_rfl
theorem c95 : Go.Vse.compFn Go.Proofs.Tryz.prog pur Go.Proofs.Tryz.f95 = some g95 := by kernel_rfl
theorem c99 : Go.Vse.compFn Go.Proofs.Tryz.prog pur Go.Proofs.Tryz.f99 = some g99 := by kernel_rfl
theorem c103 : Go.Vse.compFn Go.Proofs.Tryz.prog pur Go.Proofs.Tryz.f103 = some g103 := by kernel_rfl
theorem c107 : Go.Vse.compFn Go.Proofs.Tryz.prog pur Go.Proofs.Tryz.f107 = some g107 := by kernel_rfl
theorem c111 : Go.Vse.compFn Go.Proofs.Tryz.prog pur Go.Proofs.Tryz.f111 = some g111 := by kernel_rfl
theorem c115 : Go.Vse.compFn Go.Proofs.Tryz.prog pur Go.Proofs.Tryz.f115 = some g115 := by kernel_rfl
theorem c119 : Go.Vse.compFn Go.Proofs.Tryz.prog pur Go.Proofs.Tryz.f119 = some g119 := by kernel_rfl
theorem c127 : Go.Vse.compFn Go.Proofs.Tryz.prog pur Go.Proofs.Tryz.f127 = some g127 := by kernel_rfl
theorem c139 : Go.Vse.compFn Go.Proofs.Tryz.prog pur Go.Proofs.Tryz.f139 = some g139 := by kernel_rfl
theorem c144 : Go.Vse.compFn Go.Proofs.Tryz.prog pur Go.Proofs.Tryz.f144 = some g144 := by kernel_rfl
theorem c148 : Go.Vse.compFn Go.Proofs.Tryz.prog pur Go.Proofs.Tryz.f148 = some g148 := by kernel_rfl
theorem c154 : Go.Vse.compFn Go.Proofs.Tryz.prog pur Go.Proofs.Tryz.f154 = some g154 := by kernel_rfl
theorem c166 : Go.Vse.compFn Go.Proofs.Tryz.prog pur Go.Proofs.Tryz.f166 = some g166 := by kernel_rfl
theorem c174 : Go.Vse.compFn Go.Proofs.Tryz.prog pur Go.Proofs.Tryz.f174 = some g174 := by kernel_rfl
theorem c178 : Go.Vse.compFn Go.Proofs.Tryz.prog pur Go.Proofs.Tryz.f178 = some g178 := by kernel_rfl
end Go.Proofs.YtffjpakgkecheaaGreat
