/- The resolved code is what the compiler makes of the program. Written by program. -/
import Derived.Test.YtjmjeeieakilfaaGreatDoorProg
import Derived.Test.YtjmjeeieakilfaaGreatDoorPr
import Derived.KernelRfl
set_option linter.all false
namespace Go.Proofs.YtjmjeeieakilfaaGreatDoor
open Go.Vse
open Go (BinOp IntKind UnOp)
set_option maxRecDepth 100000
theorem c4 : Go.Vse.compFn Go.Proofs.Tryz.prog pur Go.Proofs.Tryz.f4 = some g4 := by kernel_rfl
theorem c8 : Go.Vse.compFn Go.Proofs.Tryz.prog pur Go.Proofs.Tryz.f8 = some g8 := by kernel_rfl
theorem c12 : Go.Vse.compFn Go.Proofs.Tryz.prog pur Go.Proofs.Tryz.f12 = some g12 := by kernel_rfl
theorem c17 : Go.Vse.compFn Go.Proofs.Tryz.prog pur Go.Proofs.Tryz.f17 = some g17 := by kernel_rfl
theorem c21 : Go.Vse.compFn Go.Proofs.Tryz.prog pur Go.Proofs.Tryz.f21 = some g21 := by kernel_rfl
theorem c25 : Go.Vse.compFn Go.Proofs.Tryz.prog pur Go.Proofs.Tryz.f25 = some g25 := by kernel_rfl
theorem c29 : Go.Vse.compFn Go.Proofs.Tryz.prog pur Go.Proofs.Tryz.f29 = some g29 := by kernel_rfl
theorem c36 : Go.Vse.compFn Go.Proofs.Tryz.prog pur Go.Proofs.Tryz.f36 = some g36 := by kernel_rfl
theorem c40 : Go.Vse.compFn Go.Proofs.Tryz.prog pur Go.Proofs.Tryz.f40 = some g40 := by kernel_rfl
theorem c44 : Go.Vse.compFn Go.Proofs.Tryz.prog pur Go.Proofs.Tryz.f44 = some g44 := by kernel_rfl
theorem c48 : Go.Vse.compFn Go.Proofs.Tryz.prog pur Go.Proofs.Tryz.f48 = some g48 := by kernel_rfl
theorem c53 : Go.Vse.compFn Go.Proofs.Tryz.prog pur Go.Proofs.Tryz.f53 = some g53 := by kernel_rfl
theorem c57 : Go.Vse.compFn Go.Proofs.Tryz.prog pur Go.Proofs.Tryz.f57 = some g57 := by kernel_rfl
theorem c61 : Go.Vse.compFn Go.Proofs.Tryz.prog pur Go.Proofs.Tryz.f61 = some g61 := by kernel_rfl
theorem c65 : Go.Vse.compFn Go.Proofs.Tryz.prog pur Go.Proofs.Tryz.f65 = some g65 := by kernel_rfl
theorem c69 : Go.Vse.compFn Go.Proofs.Tryz.prog pur Go.Proofs.Tryz.f69 = some g69 := by kernel_rfl
theorem c73 : Go.Vse.compFn Go.Proofs.Tryz.prog pur Go.Proofs.Tryz.f73 = some g73 := by kernel_rfl
theorem c77 : Go.Vse.compFn Go.Proofs.Tryz.prog pur Go.Proofs.Tryz.f77 = some g77 := by kernel_rfl
theorem c81 : Go.Vse.compFn Go.Proofs.Tryz.prog pur Go.Proofs.Tryz.f81 = some g81 := by kernel_rfl
theorem c87 : Go.Vse.compFn Go.Proofs.Tryz.prog pur Go.Proofs.Tryz.f87 = some g87 := by kernel_rfl
theorem c91 : Go.Vse.compFn Go.Proofs.Tryz.prog pur Go.Proofs.Tryz.f91 = some g91 := by kernel_rfl
theorem c95 : Go.Vse.compFn Go.Proofs.Tryz.prog pur Go.Proofs.Tryz.f95 = some g95 := by kernel_rfl
theorem c100 : Go.Vse.compFn Go.Proofs.Tryz.prog pur Go.Proofs.Tryz.f100 = some g100 := by kernel_rfl
theorem c104 : Go.Vse.compFn Go.Proofs.Tryz.prog pur Go.Proofs.Tryz.f104 = some g104 := by kernel_rfl
theorem c109 : Go.Vse.compFn Go.Proofs.Tryz.prog pur Go.Proofs.Tryz.f109 = some g109 := by kernel_rfl
theorem c114 : Go.Vse.compFn Go.Proofs.Tryz.prog pur Go.Proofs.Tryz.f114 = some g114 := by kernel_rfl
theorem c118 : Go.Vse.compFn Go.Proofs.Tryz.prog pur Go.Proofs.Tryz.f118 = some g118 := by kernel_rfl
theorem c125 : Go.Vse.compFn Go.Proofs.Tryz.prog pur Go.Proofs.Tryz.f125 = some g125 := by kernel_rfl
theorem c129 : Go.Vse.compFn Go.Proofs.Tryz.prog pur Go.Proofs.Tryz.f129 = some g129 := by kernel_rfl
theorem c133 : Go.Vse.compFn Go.Proofs.Tryz.prog pur Go.Proofs.Tryz.f133 = some g133 := by kernel_rfl
theorem c141 : Go.Vse.compFn Go.Proofs.Tryz.prog pur Go.Proofs.Tryz.f141 = some g141 := by kernel_rfl
theorem c145 : Go.Vse.compFn Go.Proofs.Tryz.prog pur Go.Proofs.Tryz.f145 = some g145 := by kernel_rfl
theorem c150 : Go.Vse.compFn Go.Proofs.Tryz.prog pur Go.Proofs.Tryz.f150 = some g150 := by kernel_rfl
theorem c154 : Go.Vse.compFn Go.Proofs.Tryz.prog pur Go.Proofs.Tryz.f154 = some g154 := by kernel_rfl
theorem c158 : Go.Vse.compFn Go.Proofs.Tryz.prog pur Go.Proofs.Tryz.f158 = some g158 := by kernel_rfl
theorem c166 : Go.Vse.compFn Go.Proofs.Tryz.prog pur Go.Proofs.Tryz.f166 = some g166 := by kernel_rfl
theorem c170 : Go.Vse.compFn Go.Proofs.Tryz.prog pur Go.Proofs.Tryz.f170 = some g170 := by kernel_rfl
theorem c175 : Go.Vse.compFn Go.Proofs.Tryz.prog pur Go.Proofs.Tryz.f175 = some g175 := by kernel_rfl
theorem c179 : Go.Vse.compFn Go.Proofs.Tryz.prog pur Go.Proofs.Tryz.f179 = some g179 := by kernel_rfl
theorem c185 : Go.Vse.compFn Go.Proofs.Tryz.prog pur Go.Proofs.Tryz.f185 = some g185 := by kernel_rfl
theorem c189 : Go.Vse.compFn Go.Proofs.Tryz.prog pur Go.Proofs.Tryz.f189 = some g189 := by kernel_rfl
theorem c195 : Go.Vse.compFn Go.Proofs.Tryz.prog pur Go.Proofs.Tryz.f195 = some g195 := by kernel_rfl
theorem c203 : Go.Vse.compFn Go.Proofs.Tryz.prog pur Go.Proofs.Tryz.f203 = some g203 := by kernel_rfl
theorem c210 : Go.Vse.compFn Go.Proofs.Tryz.prog pur Go.Proofs.Tryz.f210 = some g210 := by kernel_rfl
theorem c214 : Go.Vse.compFn Go.Proofs.Tryz.prog pur Go.Proofs.Tryz.f214 = some g214 := by kernel_rfl
theorem c218 : Go.Vse.compFn Go.Proofs.Tryz.prog pur Go.Proofs.Tryz.f218 = some g218 := by kernel_rfl
theorem c222 : Go.Vse.compFn Go.Proofs.Tryz.prog pur Go.Proofs.Tryz.f222 = some g222 := by kernel_rfl
theorem c229 : Go.Vse.compFn Go.Proofs.Tryz.prog pur Go.Proofs.Tryz.f229 = some g229 := by kernel_rfl
theorem c236 : Go.Vse.compFn Go.Proofs.Tryz.prog pur Go.Proofs.Tryz.f236 = some g236 := by kernel_rfl
theorem c249 : Go.Vse.compFn Go.Proofs.Tryz.prog pur Go.Proofs.Tryz.f249 = some g249 := by kernel_rfl
theorem c253 : Go.Vse.compFn Go.Proofs.Tryz.prog pur Go.Proofs.Tryz.f253 = some g253 := by kernel_rfl
theorem c258 : Go.Vse.compFn Go.Proofs.Tryz.prog pur Go.Proofs.Tryz.f258 = some g258 := by kernel_rfl
theorem c266 : Go.Vse.compFn Go.Proofs.Tryz.prog pur Go.Proofs.Tryz.f266 = some g266 := by kernel_rfl
theorem c277 : Go.Vse.compFn Go.Proofs.Tryz.prog pur Go.Proofs.Tryz.f277 = some g277 := by kernel_rfl
theorem c296 : Go.Vse.compFn Go.Proofs.Tryz.prog pur Go.Proofs.Tryz.f296 = some g296 := by kernel_rfl
end Go.Proofs.YtjmjeeieakilfaaGreatDoor
