/- The resolved code is what the compiler makes of the program. Written by program. -/
import Derived.Test.YtjmjeeieakilfaaGreatDoorProg
import Derived.Test.YtjmjeeieakilfaaGreatDoorPr
import Derived.KernelRfl
set_option linter.all false
namespace Go.Proofs.YtjmjeeieakilfaaGreatDoor
open Go.Vse
open Go (BinOp IntKind UnOp)
set_option maxRecDepth 100000
theorem c3 : Go.Vse.compFn Go.Proofs.Tryz.prog pur Go.Proofs.Tryz.f3 = some g3 := by kernel_rfl
theorem c7 : Go.Vse.compFn Go.Proofs.Tryz.prog pur Go.Proofs.Tryz.f7 = some g7 := by kernel_rfl
theorem c11 : Go.Vse.compFn Go.Proofs.Tryz.prog pur Go.Proofs.Tryz.f11 = some g11 := by kernel_rfl
theorem c16 : Go.Vse.compFn Go.Proofs.Tryz.prog pur Go.Proofs.Tryz.f16 = some g16 := by kernel_rfl
theorem c20 : Go.Vse.compFn Go.Proofs.Tryz.prog pur Go.Proofs.Tryz.f20 = some g20 := by kernel_rfl
theorem c24 : Go.Vse.compFn Go.Proofs.Tryz.prog pur Go.Proofs.Tryz.f24 = some g24 := by kernel_rfl
theorem c28 : Go.Vse.compFn Go.Proofs.Tryz.prog pur Go.Proofs.Tryz.f28 = some g28 := by kernel_rfl
theorem c35 : Go.Vse.compFn Go.Proofs.Tryz.prog pur Go.Proofs.Tryz.f35 = some g35 := by kernel_rfl
theorem c39 : Go.Vse.compFn Go.Proofs.Tryz.prog pur Go.Proofs.Tryz.f39 = some g39 := by kernel_rfl
theorem c43 : Go.Vse.compFn Go.Proofs.Tryz.prog pur Go.Proofs.Tryz.f43 = some g43 := by kernel_rfl
theorem c47 : Go.Vse.compFn Go.Proofs.Tryz.prog pur Go.Proofs.Tryz.f47 = some g47 := by kernel_rfl
theorem c51 : Go.Vse.compFn Go.Proofs.Tryz.prog pur Go.Proofs.Tryz.f51 = some g51 := by kernel_rfl
theorem c56 : Go.Vse.compFn Go.Proofs.Tryz.prog pur Go.Proofs.Tryz.f56 = some g56 := by kernel_rfl
theorem c60 : Go.Vse.compFn Go.Proofs.Tryz.prog pur Go.Proofs.Tryz.f60 = some g60 := by kernel_rfl
theorem c64 : Go.Vse.compFn Go.Proofs.Tryz.prog pur Go.Proofs.Tryz.f64 = some g64 := by kernel_rfl
theorem c68 : Go.Vse.compFn Go.Proofs.Tryz.prog pur Go.Proofs.Tryz.f68 = some g68 := by kernel_rfl
theorem c72 : Go.Vse.compFn Go.Proofs.Tryz.prog pur Go.Proofs.Tryz.f72 = some g72 := by kernel_rfl
theorem c76 : Go.Vse.compFn Go.Proofs.Tryz.prog pur Go.Proofs.Tryz.f76 = some g76 := by kernel_rfl
theorem c80 : Go.Vse.compFn Go.Proofs.Tryz.prog pur Go.Proofs.Tryz.f80 = some g80 := by kernel_rfl
theorem c86 : Go.Vse.compFn Go.Proofs.Tryz.prog pur Go.Proofs.Tryz.f86 = some g86 := by kernel_rfl
theorem c90 : Go.Vse.compFn Go.Proofs.Tryz.prog pur Go.Proofs.Tryz.f90 = some g90 := by kernel_rfl
theorem c94 : Go.Vse.compFn Go.Proofs.Tryz.prog pur Go.Proofs.Tryz.f94 = some g94 := by kernel_rfl
theorem c99 : Go.Vse.compFn Go.Proofs.Tryz.prog pur Go.Proofs.Tryz.f99 = some g99 := by kernel_rfl
theorem c103 : Go.Vse.compFn Go.Proofs.Tryz.prog pur Go.Proofs.Tryz.f103 = some g103 := by kernel_rfl
theorem c108 : Go.Vse.compFn Go.Proofs.Tryz.prog pur Go.Proofs.Tryz.f108 = some g108 := by kernel_rfl
theorem c112 : Go.Vse.compFn Go.Proofs.Tryz.prog pur Go.Proofs.Tryz.f112 = some g112 := by kernel_rfl
theorem c117 : Go.Vse.compFn Go.Proofs.Tryz.prog pur Go.Proofs.Tryz.f117 = some g117 := by kernel_rfl
theorem c124 : Go.Vse.compFn Go.Proofs.Tryz.prog pur Go.Proofs.Tryz.f124 = some g124 := by kernel_rfl
theorem c128 : Go.Vse.compFn Go.Proofs.Tryz.prog pur Go.Proofs.Tryz.f128 = some g128 := by kernel_rfl
theorem c132 : Go.Vse.compFn Go.Proofs.Tryz.prog pur Go.Proofs.Tryz.f132 = some g132 := by kernel_rfl
theorem c140 : Go.Vse.compFn Go.Proofs.Tryz.prog pur Go.Proofs.Tryz.f140 = some g140 := by kernel_rfl
theorem c144 : Go.Vse.compFn Go.Proofs.Tryz.prog pur Go.Proofs.Tryz.f144 = some g144 := by kernel_rfl
theorem c148 : Go.Vse.compFn Go.Proofs.Tryz.prog pur Go.Proofs.Tryz.f148 = some g148 := by kernel_rfl
theorem c153 : Go.Vse.compFn Go.Proofs.Tryz.prog pur Go.Proofs.Tryz.f153 = some g153 := by kernel_rfl
theorem c157 : Go.Vse.compFn Go.Proofs.Tryz.prog pur Go.Proofs.Tryz.f157 = some g157 := by kernel_rfl
theorem c165 : Go.Vse.compFn Go.Proofs.Tryz.prog pur Go.Proofs.Tryz.f165 = some g165 := by kernel_rfl
theorem c169 : Go.Vse.compFn Go.Proofs.Tryz.prog pur Go.Proofs.Tryz.f169 = some g169 := by kernel_rfl
theorem c174 : Go.Vse.compFn Go.Proofs.Tryz.prog pur Go.Proofs.Tryz.f174 = some g174 := by kernel_rfl
theorem c178 : Go.Vse.compFn Go.Proofs.Tryz.prog pur Go.Proofs.Tryz.f178 = some g178 := by kernel_rfl
theorem c182 : Go.Vse.compFn Go.Proofs.Tryz.prog pur Go.Proofs.Tryz.f182 = some g182 := by kernel_rfl
theorem c188 : Go.Vse.compFn Go.Proofs.Tryz.prog pur Go.Proofs.Tryz.f188 = some g188 := by kernel_rfl
theorem c194 : Go.Vse.compFn Go.Proofs.Tryz.prog pur Go.Proofs.Tryz.f194 = some g194 := by kernel_rfl
theorem c202 : Go.Vse.compFn Go.Proofs.Tryz.prog pur Go.Proofs.Tryz.f202 = some g202 := by kernel_rfl
theorem c209 : Go.Vse.compFn Go.Proofs.Tryz.prog pur Go.Proofs.Tryz.f209 = some g209 := by kernel_rfl
theorem c213 : Go.Vse.compFn Go.Proofs.Tryz.prog pur Go.Proofs.Tryz.f213 = some g213 := by kernel_rfl
theorem c217 : Go.Vse.compFn Go.Proofs.Tryz.prog pur Go.Proofs.Tryz.f217 = some g217 := by kernel_rfl
theorem c221 : Go.Vse.compFn Go.Proofs.Tryz.prog pur Go.Proofs.Tryz.f221 = some g221 := by kernel_rfl
theorem c228 : Go.Vse.compFn Go.Proofs.Tryz.prog pur Go.Proofs.Tryz.f228 = some g228 := by kernel_rfl
theorem c235 : Go.Vse.compFn Go.Proofs.Tryz.prog pur Go.Proofs.Tryz.f235 = some g235 := by kernel_rfl
theorem c248 : Go.Vse.compFn Go.Proofs.Tryz.prog pur Go.Proofs.Tryz.f248 = some g248 := by kernel_rfl
theorem c252 : Go.Vse.compFn Go.Proofs.Tryz.prog pur Go.Proofs.Tryz.f252 = some g252 := by kernel_rfl
theorem c257 : Go.Vse.compFn Go.Proofs.Tryz.prog pur Go.Proofs.Tryz.f257 = some g257 := by kernel_rfl
theorem c265 : Go.Vse.compFn Go.Proofs.Tryz.prog pur Go.Proofs.Tryz.f265 = some g265 := by kernel_rfl
theorem c271 : Go.Vse.compFn Go.Proofs.Tryz.prog pur Go.Proofs.Tryz.f271 = some g271 := by kernel_rfl
theorem c288 : Go.Vse.compFn Go.Proofs.Tryz.prog pur Go.Proofs.Tryz.f288 = some g288 := by kernel_rfl
end Go.Proofs.YtjmjeeieakilfaaGreatDoor
