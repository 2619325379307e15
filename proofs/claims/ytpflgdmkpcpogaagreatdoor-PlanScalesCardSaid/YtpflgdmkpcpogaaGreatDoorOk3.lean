/- The resolved code is what the compiler makes of the program. Written by program. -/
import Derived.Test.YtpflgdmkpcpogaaGreatDoorProg
import Derived.Test.YtpflgdmkpcpogaaGreatDoorPr
import Derived.KernelRfl
set_option linter.all false
namespace Go.Proofs.YtpflgdmkpcpogaaGreatDoor
open Go.Vse
open Go (BinOp IntKind UnOp)
set_option maxRecDepth 100000
theorem c6 : Go.Vse.compFn Go.Proofs.Tryz.prog pur Go.Proofs.Tryz.f6 = some g6 := by kernel_rfl
theorem c10 : Go.Vse.compFn Go.Proofs.Tryz.prog pur Go.Proofs.Tryz.f10 = some g10 := by kernel_rfl
theorem c14 : Go.Vse.compFn Go.Proofs.Tryz.prog pur Go.Proofs.Tryz.f14 = some g14 := by kernel_rfl
theorem c18 : Go.Vse.compFn Go.Proofs.Tryz.prog pur Go.Proofs.Tryz.f18 = some g18 := by kernel_rfl
theorem c22 : Go.Vse.compFn Go.Proofs.Tryz.prog pur Go.Proofs.Tryz.f22 = some g22 := by kernel_rfl
theorem c26 : Go.Vse.compFn Go.Proofs.Tryz.prog pur Go.Proofs.Tryz.f26 = some g26 := by kernel_rfl
theorem c30 : Go.Vse.compFn Go.Proofs.Tryz.prog pur Go.Proofs.Tryz.f30 = some g30 := by kernel_rfl
theorem c34 : Go.Vse.compFn Go.Proofs.Tryz.prog pur Go.Proofs.Tryz.f34 = some g34 := by kernel_rfl
theorem c38 : Go.Vse.compFn Go.Proofs.Tryz.prog pur Go.Proofs.Tryz.f38 = some g38 := by kernel_rfl
theorem c43 : Go.Vse.compFn Go.Proofs.Tryz.prog pur Go.Proofs.Tryz.f43 = some g43 := by kernel_rfl
theorem c48 : Go.Vse.compFn Go.Proofs.Tryz.prog pur Go.Proofs.Tryz.f48 = some g48 := by kernel_rfl
theorem c53 : Go.Vse.compFn Go.Proofs.Tryz.prog pur Go.Proofs.Tryz.f53 = some g53 := by kernel_rfl
theorem c62 : Go.Vse.compFn Go.Proofs.Tryz.prog pur Go.Proofs.Tryz.f62 = some g62 := by kernel_rfl
theorem c66 : Go.Vse.compFn Go.Proofs.Tryz.prog pur Go.Proofs.Tryz.f66 = some g66 := by kernel_rfl
theorem c70 : Go.Vse.compFn Go.Proofs.Tryz.prog pur Go.Proofs.Tryz.f70 = some g70 := by kernel_rfl
theorem c74 : Go.Vse.compFn Go.Proofs.Tryz.prog pur Go.Proofs.Tryz.f74 = some g74 := by kernel_rfl
theorem c78 : Go.Vse.compFn Go.Proofs.Tryz.prog pur Go.Proofs.Tryz.f78 = some g78 := by kernel_rfl
theorem c82 : Go.Vse.compFn Go.Proofs.Tryz.prog pur Go.Proofs.Tryz.f82 = some g82 := by kernel_rfl
theorem c86 : Go.Vse.compFn Go.Proofs.Tryz.prog pur Go.Proofs.Tryz.f86 = some g86 := by kernel_rfl
theorem c90 : Go.Vse.compFn Go.Proofs.Tryz.prog pur Go.Proofs.Tryz.f90 = some g90 := by kernel_rfl
theorem c95 : Go.Vse.compFn Go.Proofs.Tryz.prog pur Go.Proofs.Tryz.f95 = some g95 := by kernel_rfl
theorem c100 : Go.Vse.compFn Go.Proofs.Tryz.prog pur Go.Proofs.Tryz.f100 = some g100 := by kernel_rfl
theorem c107 : Go.Vse.compFn Go.Proofs.Tryz.prog pur Go.Proofs.Tryz.f107 = some g107 := by kernel_rfl
theorem c111 : Go.Vse.compFn Go.Proofs.Tryz.prog pur Go.Proofs.Tryz.f111 = some g111 := by kernel_rfl
theorem c120 : Go.Vse.compFn Go.Proofs.Tryz.prog pur Go.Proofs.Tryz.f120 = some g120 := by kernel_rfl
theorem c127 : Go.Vse.compFn Go.Proofs.Tryz.prog pur Go.Proofs.Tryz.f127 = some g127 := by kernel_rfl
theorem c132 : Go.Vse.compFn Go.Proofs.Tryz.prog pur Go.Proofs.Tryz.f132 = some g132 := by kernel_rfl
theorem c138 : Go.Vse.compFn Go.Proofs.Tryz.prog pur Go.Proofs.Tryz.f138 = some g138 := by kernel_rfl
theorem c142 : Go.Vse.compFn Go.Proofs.Tryz.prog pur Go.Proofs.Tryz.f142 = some g142 := by kernel_rfl
theorem c146 : Go.Vse.compFn Go.Proofs.Tryz.prog pur Go.Proofs.Tryz.f146 = some g146 := by kernel_rfl
theorem c150 : Go.Vse.compFn Go.Proofs.Tryz.prog pur Go.Proofs.Tryz.f150 = some g150 := by kernel_rfl
theorem c154 : Go.Vse.compFn Go.Proofs.Tryz.prog pur Go.Proofs.Tryz.f154 = some g154 := by kernel_rfl
theorem c166 : Go.Vse.compFn Go.Proofs.Tryz.prog pur Go.Proofs.Tryz.f166 = some g166 := by kernel_rfl
theorem c171 : Go.Vse.compFn Go.Proofs.Tryz.prog pur Go.Proofs.Tryz.f171 = some g171 := by kernel_rfl
theorem c175 : Go.Vse.compFn Go.Proofs.Tryz.prog pur Go.Proofs.Tryz.f175 = some g175 := by kernel_rfl
theorem c180 : Go.Vse.compFn Go.Proofs.Tryz.prog pur Go.Proofs.Tryz.f180 = some g180 := by kernel_rfl
theorem c192 : Go.Vse.compFn Go.Proofs.Tryz.prog pur Go.Proofs.Tryz.f192 = some g192 := by kernel_rfl
theorem c205 : Go.Vse.compFn Go.Proofs.Tryz.prog pur Go.Proofs.Tryz.f205 = some g205 := by kernel_rfl
theorem c209 : Go.Vse.compFn Go.Proofs.Tryz.prog pur Go.Proofs.Tryz.f209 = some g209 := by kernel_rfl
theorem c214 : Go.Vse.compFn Go.Proofs.Tryz.prog pur Go.Proofs.Tryz.f214 = some g214 := by kernel_rfl
theorem c220 : Go.Vse.compFn Go.Proofs.Tryz.prog pur Go.Proofs.Tryz.f220 = some g220 := by kernel_rfl
theorem c226 : Go.Vse.compFn Go.Proofs.Tryz.prog pur Go.Proofs.Tryz.f226 = some g226 := by kernel_rfl
theorem c234 : Go.Vse.compFn Go.Proofs.Tryz.prog pur Go.Proofs.Tryz.f234 = some g234 := by kernel_rfl
theorem c241 : Go.Vse.compFn Go.Proofs.Tryz.prog pur Go.Proofs.Tryz.f241 = some g241 := by kernel_rfl
theorem c245 : Go.Vse.compFn Go.Proofs.Tryz.prog pur Go.Proofs.Tryz.f245 = some g245 := by kernel_rfl
theorem c271 : Go.Vse.compFn Go.Proofs.Tryz.prog pur Go.Proofs.Tryz.f271 = some g271 := by kernel_rfl
theorem c278 : Go.Vse.compFn Go.Proofs.Tryz.prog pur Go.Proofs.Tryz.f278 = some g278 := by kernel_rfl
end Go.Proofs.YtpflgdmkpcpogaaGreatDoor
