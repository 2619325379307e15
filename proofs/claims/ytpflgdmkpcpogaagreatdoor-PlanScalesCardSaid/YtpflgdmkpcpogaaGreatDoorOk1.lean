/- The resolved code is what the compiler makes of the program. Written by program. -/
import Derived.Test.YtpflgdmkpcpogaaGreatDoorProg
import Derived.Test.YtpflgdmkpcpogaaGreatDoorPr
import Derived.KernelRfl
set_option linter.all false
namespace Go.Proofs.YtpflgdmkpcpogaaGreatDoor
open Go.Vse
open Go (BinOp IntKind UnOp)
set_option maxRecDepth 100000
theorem c4 : Go.Vse.compFn Go.Proofs.Tryz.prog pur Go.Proofs.Tryz.f4 = some g4 := by kernel_rfl
theorem c8 : Go.Vse.compFn Go.Proofs.Tryz.prog pur Go.Proofs.Tryz.f8 = some g8 := by kernel_rfl
theorem c12 : Go.Vse.compFn Go.Proofs.Tryz.prog pur Go.Proofs.Tryz.f12 = some g12 := by kernel_rfl
theorem c16 : Go.Vse.compFn Go.Proofs.Tryz.prog pur Go.Proofs.Tryz.f16 = some g16 := by kernel_rfl
theorem c20 : Go.Vse.compFn Go.Proofs.Tryz.prog pur Go.Proofs.Tryz.f20 = some g20 := by kernel_rfl
theorem c24 : Go.Vse.compFn Go.Proofs.Tryz.prog pur Go.Proofs.Tryz.f24 = some g24 := by kernel_rfl
theorem c28 : Go.Vse.compFn Go.Proofs.Tryz.prog pur Go.Proofs.Tryz.f28 = some g28 := by kernel_rfl
theorem c32 : Go.Vse.compFn Go.Proofs.Tryz.prog pur Go.Proofs.Tryz.f32 = some g32 := by kernel_rfl
theorem c36 : Go.Vse.compFn Go.Proofs.Tryz.prog pur Go.Proofs.Tryz.f36 = some g36 := by kernel_rfl
theorem c41 : Go.Vse.compFn Go.Proofs.Tryz.prog pur Go.Proofs.Tryz.f41 = some g41 := by kernel_rfl
theorem c45 : Go.Vse.compFn Go.Proofs.Tryz.prog pur Go.Proofs.Tryz.f45 = some g45 := by kernel_rfl
theorem c50 : Go.Vse.compFn Go.Proofs.Tryz.prog pur Go.Proofs.Tryz.f50 = some g50 := by kernel_rfl
theorem c57 : Go.Vse.compFn Go.Proofs.Tryz.prog pur Go.Proofs.Tryz.f57 = some g57 := by kernel_rfl
theorem c64 : Go.Vse.compFn Go.Proofs.Tryz.prog pur Go.Proofs.Tryz.f64 = some g64 := by kernel_rfl
theorem c68 : Go.Vse.compFn Go.Proofs.Tryz.prog pur Go.Proofs.Tryz.f68 = some g68 := by kernel_rfl
theorem c72 : Go.Vse.compFn Go.Proofs.Tryz.prog pur Go.Proofs.Tryz.f72 = some g72 := by kernel_rfl
theorem c76 : Go.Vse.compFn Go.Proofs.Tryz.prog pur Go.Proofs.Tryz.f76 = some g76 := by kernel_rfl
theorem c80 : Go.Vse.compFn Go.Proofs.Tryz.prog pur Go.Proofs.Tryz.f80 = some g80 := by kernel_rfl
theorem c84 : Go.Vse.compFn Go.Proofs.Tryz.prog pur Go.Proofs.Tryz.f84 = some g84 := by kernel_rfl
theorem c88 : Go.Vse.compFn Go.Proofs.Tryz.prog pur Go.Proofs.Tryz.f88 = some g88 := by kernel_rfl
theorem c93 : Go.Vse.compFn Go.Proofs.Tryz.prog pur Go.Proofs.Tryz.f93 = some g93 := by kernel_rfl
theorem c98 : Go.Vse.compFn Go.Proofs.Tryz.prog pur Go.Proofs.Tryz.f98 = some g98 := by kernel_rfl
theorem c105 : Go.Vse.compFn Go.Proofs.Tryz.prog pur Go.Proofs.Tryz.f105 = some g105 := by kernel_rfl
theorem c109 : Go.Vse.compFn Go.Proofs.Tryz.prog pur Go.Proofs.Tryz.f109 = some g109 := by kernel_rfl
theorem c113 : Go.Vse.compFn Go.Proofs.Tryz.prog pur Go.Proofs.Tryz.f113 = some g113 := by kernel_rfl
theorem c125 : Go.Vse.compFn Go.Proofs.Tryz.prog pur Go.Proofs.Tryz.f125 = some g125 := by kernel_rfl
theorem c130 : Go.Vse.compFn Go.Proofs.Tryz.prog pur Go.Proofs.Tryz.f130 = some g130 := by kernel_rfl
theorem c136 : Go.Vse.compFn Go.Proofs.Tryz.prog pur Go.Proofs.Tryz.f136 = some g136 := by kernel_rfl
theorem c140 : Go.Vse.compFn Go.Proofs.Tryz.prog pur Go.Proofs.Tryz.f140 = some g140 := by kernel_rfl
theorem c144 : Go.Vse.compFn Go.Proofs.Tryz.prog pur Go.Proofs.Tryz.f144 = some g144 := by kernel_rfl
theorem c148 : Go.Vse.compFn Go.Proofs.Tryz.prog pur Go.Proofs.Tryz.f148 = some g148 := by kernel_rfl
theorem c152 : Go.Vse.compFn Go.Proofs.Tryz.prog pur Go.Proofs.Tryz.f152 = some g152 := by kernel_rfl
theorem c164 : Go.Vse.compFn Go.Proofs.Tryz.prog pur Go.Proofs.Tryz.f164 = some g164 := by kernel_rfl
theorem c169 : Go.Vse.compFn Go.Proofs.Tryz.prog pur Go.Proofs.Tryz.f169 = some g169 := by kernel_rfl
theorem c173 : Go.Vse.compFn Go.Proofs.Tryz.prog pur Go.Proofs.Tryz.f173 = some g173 := by kernel_rfl
theorem c178 : Go.Vse.compFn Go.Proofs.Tryz.prog pur Go.Proofs.Tryz.f178 = some g178 := by kernel_rfl
theorem c190 : Go.Vse.compFn Go.Proofs.Tryz.prog pur Go.Proofs.Tryz.f190 = some g190 := by kernel_rfl
theorem c203 : Go.Vse.compFn Go.Proofs.Tryz.prog pur Go.Proofs.Tryz.f203 = some g203 := by kernel_rfl
theorem c207 : Go.Vse.compFn Go.Proofs.Tryz.prog pur Go.Proofs.Tryz.f207 = some g207 := by kernel_rfl
theorem c211 : Go.Vse.compFn Go.Proofs.Tryz.prog pur Go.Proofs.Tryz.f211 = some g211 := by kernel_rfl
theorem c217 : Go.Vse.compFn Go.Proofs.Tryz.prog pur Go.Proofs.Tryz.f217 = some g217 := by kernel_rfl
theorem c222 : Go.Vse.compFn Go.Proofs.Tryz.prog pur Go.Proofs.Tryz.f222 = some g222 := by kernel_rfl
theorem c228 : Go.Vse.compFn Go.Proofs.Tryz.prog pur Go.Proofs.Tryz.f228 = some g228 := by kernel_rfl
theorem c237 : Go.Vse.compFn Go.Proofs.Tryz.prog pur Go.Proofs.Tryz.f237 = some g237 := by kernel_rfl
theorem c243 : Go.Vse.compFn Go.Proofs.Tryz.prog pur Go.Proofs.Tryz.f243 = some g243 := by kernel_rfl
theorem c268 : Go.Vse.compFn Go.Proofs.Tryz.prog pur Go.Proofs.Tryz.f268 = some g268 := by kernel_rfl
theorem c273 : Go.Vse.compFn Go.Proofs.Tryz.prog pur Go.Proofs.Tryz.f273 = some g273 := by kernel_rfl
theorem c330 : Go.Vse.compFn Go.Proofs.Tryz.prog pur Go.Proofs.Tryz.f330 = some g330 := by kernel_rfl
end Go.Proofs.YtpflgdmkpcpogaaGreatDoor
