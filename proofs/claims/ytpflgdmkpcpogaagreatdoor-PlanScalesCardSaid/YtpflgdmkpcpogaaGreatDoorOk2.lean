/- The resolved code is what the compiler makes of the program. Written by program. -/
import Derived.Test.YtpflgdmkpcpogaaGreatDoorProg
import Derived.Test.YtpflgdmkpcpogaaGreatDoorPr
import Derived.KernelRfl
set_option linter.all false
namespace Go.Proofs.YtpflgdmkpcpogaaGreatDoor
open Go.Vse
open Go (BinOp IntKind UnOp)
set_option maxRecDepth 100000
theorem c5 : Go.Vse.compFn Go.Proofs.Tryz.prog pur Go.Proofs.Tryz.f5 = some g5 := by kernel_rfl
theorem c9 : Go.Vse.compFn Go.Proofs.Tryz.prog pur Go.Proofs.Tryz.f9 = some g9 := by kernel_rfl
theorem c13 : Go.Vse.compFn Go.Proofs.Tryz.prog pur Go.Proofs.Tryz.f13 = some g13 := by kernel_rfl
theorem c17 : Go.Vse.compFn Go.Proofs.Tryz.prog pur Go.Proofs.Tryz.f17 = some g17 := by kernel_rfl
theorem c21 : Go.Vse.compFn Go.Proofs.Tryz.prog pur Go.Proofs.Tryz.f21 = some g21 := by kernel_rfl
theorem c25 : Go.Vse.compFn Go.Proofs.Tryz.prog pur Go.Proofs.Tryz.f25 = some g25 := by kernel_rfl
theorem c29 : Go.Vse.compFn Go.Proofs.Tryz.prog pur Go.Proofs.Tryz.f29 = some g29 := by kernel_rfl
theorem c33 : Go.Vse.compFn Go.Proofs.Tryz.prog pur Go.Proofs.Tryz.f33 = some g33 := by kernel_rfl
theorem c37 : Go.Vse.compFn Go.Proofs.Tryz.prog pur Go.Proofs.Tryz.f37 = some g37 := by kernel_rfl
theorem c42 : Go.Vse.compFn Go.Proofs.Tryz.prog pur Go.Proofs.Tryz.f42 = some g42 := by kernel_rfl
theorem c46 : Go.Vse.compFn Go.Proofs.Tryz.prog pur Go.Proofs.Tryz.f46 = some g46 := by kernel_rfl
theorem c52 : Go.Vse.compFn Go.Proofs.Tryz.prog pur Go.Proofs.Tryz.f52 = some g52 := by kernel_rfl
theorem c61 : Go.Vse.compFn Go.Proofs.Tryz.prog pur Go.Proofs.Tryz.f61 = some g61 := by kernel_rfl
theorem c65 : Go.Vse.compFn Go.Proofs.Tryz.prog pur Go.Proofs.Tryz.f65 = some g65 := by kernel_rfl
theorem c69 : Go.Vse.compFn Go.Proofs.Tryz.prog pur Go.Proofs.Tryz.f69 = some g69 := by kernel_rfl
theorem c73 : Go.Vse.compFn Go.Proofs.Tryz.prog pur Go.Proofs.Tryz.f73 = some g73 := by kernel_rfl
theorem c77 : Go.Vse.compFn Go.Proofs.Tryz.prog pur Go.Proofs.Tryz.f77 = some g77 := by kernel_rfl
theorem c81 : Go.Vse.compFn Go.Proofs.Tryz.prog pur Go.Proofs.Tryz.f81 = some g81 := by kernel_rfl
theorem c85 : Go.Vse.compFn Go.Proofs.Tryz.prog pur Go.Proofs.Tryz.f85 = some g85 := by kernel_rfl
theorem c89 : Go.Vse.compFn Go.Proofs.Tryz.prog pur Go.Proofs.Tryz.f89 = some g89 := by kernel_rfl
theorem c94 : Go.Vse.compFn Go.Proofs.Tryz.prog pur Go.Proofs.Tryz.f94 = some g94 := by kernel_rfl
theorem c99 : Go.Vse.compFn Go.Proofs.Tryz.prog pur Go.Proofs.Tryz.f99 = some g99 := by kernel_rfl
theorem c106 : Go.Vse.compFn Go.Proofs.Tryz.prog pur Go.Proofs.Tryz.f106 = some g106 := by kernel_rfl
theorem c110 : Go.Vse.compFn Go.Proofs.Tryz.prog pur Go.Proofs.Tryz.f110 = some g110 := by kernel_rfl
theorem c116 : Go.Vse.compFn Go.Proofs.Tryz.prog pur Go.Proofs.Tryz.f116 = some g116 := by kernel_rfl
theorem c126 : Go.Vse.compFn Go.Proofs.Tryz.prog pur Go.Proofs.Tryz.f126 = some g126 := by kernel_rfl
theorem c131 : Go.Vse.compFn Go.Proofs.Tryz.prog pur Go.Proofs.Tryz.f131 = some g131 := by kernel_rfl
theorem c137 : Go.Vse.compFn Go.Proofs.Tryz.prog pur Go.Proofs.Tryz.f137 = some g137 := by kernel_rfl
theorem c141 : Go.Vse.compFn Go.Proofs.Tryz.prog pur Go.Proofs.Tryz.f141 = some g141 := by kernel_rfl
theorem c145 : Go.Vse.compFn Go.Proofs.Tryz.prog pur Go.Proofs.Tryz.f145 = some g145 := by kernel_rfl
theorem c149 : Go.Vse.compFn Go.Proofs.Tryz.prog pur Go.Proofs.Tryz.f149 = some g149 := by kernel_rfl
theorem c153 : Go.Vse.compFn Go.Proofs.Tryz.prog pur Go.Proofs.Tryz.f153 = some g153 := by kernel_rfl
theorem c165 : Go.Vse.compFn Go.Proofs.Tryz.prog pur Go.Proofs.Tryz.f165 = some g165 := by kernel_rfl
theorem c170 : Go.Vse.compFn Go.Proofs.Tryz.prog pur Go.Proofs.Tryz.f170 = some g170 := by kernel_rfl
theorem c174 : Go.Vse.compFn Go.Proofs.Tryz.prog pur Go.Proofs.Tryz.f174 = some g174 := by kernel_rfl
theorem c179 : Go.Vse.compFn Go.Proofs.Tryz.prog pur Go.Proofs.Tryz.f179 = some g179 := by kernel_rfl
theorem c191 : Go.Vse.compFn Go.Proofs.Tryz.prog pur Go.Proofs.Tryz.f191 = some g191 := by kernel_rfl
theorem c204 : Go.Vse.compFn Go.Proofs.Tryz.prog pur Go.Proofs.Tryz.f204 = some g204 := by kernel_rfl
theorem c208 : Go.Vse.compFn Go.Proofs.Tryz.prog pur Go.Proofs.Tryz.f208 = some g208 := by kernel_rfl
theorem c212 : Go.Vse.compFn Go.Proofs.Tryz.prog pur Go.Proofs.Tryz.f212 = some g212 := by kernel_rfl
theorem c218 : Go.Vse.compFn Go.Proofs.Tryz.prog pur Go.Proofs.Tryz.f218 = some g218 := by kernel_rfl
theorem c223 : Go.Vse.compFn Go.Proofs.Tryz.prog pur Go.Proofs.Tryz.f223 = some g223 := by kernel_rfl
theorem c229 : Go.Vse.compFn Go.Proofs.Tryz.prog pur Go.Proofs.Tryz.f229 = some g229 := by kernel_rfl
theorem c240 : Go.Vse.compFn Go.Proofs.Tryz.prog pur Go.Proofs.Tryz.f240 = some g240 := by kernel_rfl
theorem c244 : Go.Vse.compFn Go.Proofs.Tryz.prog pur Go.Proofs.Tryz.f244 = some g244 := by kernel_rfl
theorem c269 : Go.Vse.compFn Go.Proofs.Tryz.prog pur Go.Proofs.Tryz.f269 = some g269 := by kernel_rfl
theorem c274 : Go.Vse.compFn Go.Proofs.Tryz.prog pur Go.Proofs.Tryz.f274 = some g274 := by kernel_rfl
theorem c338 : Go.Vse.compFn Go.Proofs.Tryz.prog pur Go.Proofs.Tryz.f338 = some g338 := by kernel_rfl
end Go.Proofs.YtpflgdmkpcpogaaGreatDoor
