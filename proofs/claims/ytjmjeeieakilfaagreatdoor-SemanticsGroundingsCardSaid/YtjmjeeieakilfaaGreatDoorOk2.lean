/- The resolved code is what the compiler makes of the program. Written by program. -/
import Derived.Test.YtjmjeeieakilfaaGreatDoorProg
import Derived.Test.YtjmjeeieakilfaaGreatDoorPr
import Derived.KernelRfl
set_option linter.all false
namespace Go.Proofs.YtjmjeeieakilfaaGreatDoor
open Go.Vse
open Go (BinOp IntKind UnOp)
set_option maxRecDepth 100000
theorem c5 : Go.Vse.compFn Go.Proofs.Tryz.prog pur Go.Proofs.Tryz.f5 = some g5 := by kernel_rfl
theorem c9 : Go.Vse.compFn Go.Proofs.Tryz.prog pur Go.Proofs.Tryz.f9 = some g9 := by kernel_rfl
theorem c13 : Go.Vse.compFn Go.Proofs.Tryz.prog pur Go.Proofs.Tryz.f13 = some g13 := by kernel_rfl
theorem c18 : Go.Vse.compFn Go.Proofs.Tryz.prog pur Go.Proofs.Tryz.f18 = some g18 := by kernel_rfl
theorem c22 : Go.Vse.compFn Go.Proofs.Tryz.prog pur Go.Proofs.Tryz.f22 = some g22 := by kernel_rfl
theorem c26 : Go.Vse.compFn Go.Proofs.Tryz.prog pur Go.Proofs.Tryz.f26 = some g26 := by kernel_rfl
theorem c31 : Go.Vse.compFn Go.Proofs.Tryz.prog pur Go.Proofs.Tryz.f31 = some g31 := by kernel_rfl
theorem c37 : Go.Vse.compFn Go.Proofs.Tryz.prog pur Go.Proofs.Tryz.f37 = some g37 := by kernel_rfl
theorem c41 : Go.Vse.compFn Go.Proofs.Tryz.prog pur Go.Proofs.Tryz.f41 = some g41 := by kernel_rfl
theorem c45 : Go.Vse.compFn Go.Proofs.Tryz.prog pur Go.Proofs.Tryz.f45 = some g45 := by kernel_rfl
theorem c49 : Go.Vse.compFn Go.Proofs.Tryz.prog pur Go.Proofs.Tryz.f49 = some g49 := by kernel_rfl
theorem c54 : Go.Vse.compFn Go.Proofs.Tryz.prog pur Go.Proofs.Tryz.f54 = some g54 := by kernel_rfl
theorem c58 : Go.Vse.compFn Go.Proofs.Tryz.prog pur Go.Proofs.Tryz.f58 = some g58 := by kernel_rfl
theorem c62 : Go.Vse.compFn Go.Proofs.Tryz.prog pur Go.Proofs.Tryz.f62 = some g62 := by kernel_rfl
theorem c66 : Go.Vse.compFn Go.Proofs.Tryz.prog pur Go.Proofs.Tryz.f66 = some g66 := by kernel_rfl
theorem c70 : Go.Vse.compFn Go.Proofs.Tryz.prog pur Go.Proofs.Tryz.f70 = some g70 := by kernel_rfl
theorem c74 : Go.Vse.compFn Go.Proofs.Tryz.prog pur Go.Proofs.Tryz.f74 = some g74 := by kernel_rfl
theorem c78 : Go.Vse.compFn Go.Proofs.Tryz.prog pur Go.Proofs.Tryz.f78 = some g78 := by kernel_rfl
theorem c82 : Go.Vse.compFn Go.Proofs.Tryz.prog pur Go.Proofs.Tryz.f82 = some g82 := by kernel_rfl
theorem c88 : Go.Vse.compFn Go.Proofs.Tryz.prog pur Go.Proofs.Tryz.f88 = some g88 := by kernel_rfl
theorem c92 : Go.Vse.compFn Go.Proofs.Tryz.prog pur Go.Proofs.Tryz.f92 = some g92 := by kernel_rfl
theorem c96 : Go.Vse.compFn Go.Proofs.Tryz.prog pur Go.Proofs.Tryz.f96 = some g96 := by kernel_rfl
theorem c101 : Go.Vse.compFn Go.Proofs.Tryz.prog pur Go.Proofs.Tryz.f101 = some g101 := by kernel_rfl
theorem c106 : Go.Vse.compFn Go.Proofs.Tryz.prog pur Go.Proofs.Tryz.f106 = some g106 := by kernel_rfl
theorem c110 : Go.Vse.compFn Go.Proofs.Tryz.prog pur Go.Proofs.Tryz.f110 = some g110 := by kernel_rfl
theorem c115 : Go.Vse.compFn Go.Proofs.Tryz.prog pur Go.Proofs.Tryz.f115 = some g115 := by kernel_rfl
theorem c119 : Go.Vse.compFn Go.Proofs.Tryz.prog pur Go.Proofs.Tryz.f119 = some g119 := by kernel_rfl
theorem c126 : Go.Vse.compFn Go.Proofs.Tryz.prog pur Go.Proofs.Tryz.f126 = some g126 := by kernel_rfl
theorem c130 : Go.Vse.compFn Go.Proofs.Tryz.prog pur Go.Proofs.Tryz.f130 = some g130 := by kernel_rfl
theorem c138 : Go.Vse.compFn Go.Proofs.Tryz.prog pur Go.Proofs.Tryz.f138 = some g138 := by kernel_rfl
theorem c142 : Go.Vse.compFn Go.Proofs.Tryz.prog pur Go.Proofs.Tryz.f142 = some g142 := by kernel_rfl
theorem c146 : Go.Vse.compFn Go.Proofs.Tryz.prog pur Go.Proofs.Tryz.f146 = some g146 := by kernel_rfl
theorem c151 : Go.Vse.compFn Go.Proofs.Tryz.prog pur Go.Proofs.Tryz.f151 = some g151 := by kernel_rfl
theorem c155 : Go.Vse.compFn Go.Proofs.Tryz.prog pur Go.Proofs.Tryz.f155 = some g155 := by kernel_rfl
theorem c160 : Go.Vse.compFn Go.Proofs.Tryz.prog pur Go.Proofs.Tryz.f160 = some g160 := by kernel_rfl
theorem c167 : Go.Vse.compFn Go.Proofs.Tryz.prog pur Go.Proofs.Tryz.f167 = some g167 := by kernel_rfl
theorem c171 : Go.Vse.compFn Go.Proofs.Tryz.prog pur Go.Proofs.Tryz.f171 = some g171 := by kernel_rfl
theorem c176 : Go.Vse.compFn Go.Proofs.Tryz.prog pur Go.Proofs.Tryz.f176 = some g176 := by kernel_rfl
theorem c180 : Go.Vse.compFn Go.Proofs.Tryz.prog pur Go.Proofs.Tryz.f180 = some g180 := by kernel_rfl
theorem c186 : Go.Vse.compFn Go.Proofs.Tryz.prog pur Go.Proofs.Tryz.f186 = some g186 := by kernel_rfl
theorem c190 : Go.Vse.compFn Go.Proofs.Tryz.prog pur Go.Proofs.Tryz.f190 = some g190 := by kernel_rfl
theorem c196 : Go.Vse.compFn Go.Proofs.Tryz.prog pur Go.Proofs.Tryz.f196 = some g196 := by kernel_rfl
theorem c204 : Go.Vse.compFn Go.Proofs.Tryz.prog pur Go.Proofs.Tryz.f204 = some g204 := by kernel_rfl
theorem c211 : Go.Vse.compFn Go.Proofs.Tryz.prog pur Go.Proofs.Tryz.f211 = some g211 := by kernel_rfl
theorem c215 : Go.Vse.compFn Go.Proofs.Tryz.prog pur Go.Proofs.Tryz.f215 = some g215 := by kernel_rfl
theorem c219 : Go.Vse.compFn Go.Proofs.Tryz.prog pur Go.Proofs.Tryz.f219 = some g219 := by kernel_rfl
theorem c225 : Go.Vse.compFn Go.Proofs.Tryz.prog pur Go.Proofs.Tryz.f225 = some g225 := by kernel_rfl
theorem c230 : Go.Vse.compFn Go.Proofs.Tryz.prog pur Go.Proofs.Tryz.f230 = some g230 := by kernel_rfl
theorem c246 : Go.Vse.compFn Go.Proofs.Tryz.prog pur Go.Proofs.Tryz.f246 = some g246 := by kernel_rfl
theorem c250 : Go.Vse.compFn Go.Proofs.Tryz.prog pur Go.Proofs.Tryz.f250 = some g250 := by kernel_rfl
theorem c255 : Go.Vse.compFn Go.Proofs.Tryz.prog pur Go.Proofs.Tryz.f255 = some g255 := by kernel_rfl
theorem c259 : Go.Vse.compFn Go.Proofs.Tryz.prog pur Go.Proofs.Tryz.f259 = some g259 := by kernel_rfl
theorem c268 : Go.Vse.compFn Go.Proofs.Tryz.prog pur Go.Proofs.Tryz.f268 = some g268 := by kernel_rfl
theorem c280 : Go.Vse.compFn Go.Proofs.Tryz.prog pur Go.Proofs.Tryz.f280 = some g280 := by kernel_rfl
end Go.Proofs.YtjmjeeieakilfaaGreatDoor
