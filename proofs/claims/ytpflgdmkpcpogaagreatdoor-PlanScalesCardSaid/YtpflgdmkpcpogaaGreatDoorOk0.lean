/- The resolved code is what the compiler makes of the program. Written by program. -/
import Derived.Test.YtpflgdmkpcpogaaGreatDoorProg
import Derived.Test.YtpflgdmkpcpogaaGreatDoorPr
import Derived.KernelRfl
set_option linter.all false
namespace Go.Proofs.YtpflgdmkpcpogaaGreatDoor
open Go.Vse
open Go (BinOp IntKind UnOp)
set_option maxRecDepth 100000
theorem c3 : Go.Vse.compFn Go.Proofs.Tryz.prog pur Go.Proofs.Tryz.f3 = some g3 := by kernel_rfl
theorem c7 : Go.Vse.compFn Go.Proofs.Tryz.prog pur Go.Proofs.Tryz.f7 = some g7 := by kernel_rfl
theorem c11 : Go.Vse.compFn Go.Proofs.Tryz.prog pur Go.Proofs.Tryz.f11 = some g11 := by kernel_rfl
theorem c15 : Go.Vse.compFn Go.Proofs.Tryz.prog pur Go.Proofs.Tryz.f15 = some g15 := by kernel_rfl
theorem c19 : Go.Vse.compFn Go.Proofs.Tryz.prog pur Go.Proofs.Tryz.f19 = some g19 := by kernel_rfl
theorem c23 : Go.Vse.compFn Go.Proofs.Tryz.prog pur Go.Proofs.Tryz.f23 = some g23 := by kernel_rfl
theorem c27 : Go.Vse.compFn Go.Proofs.Tryz.prog pur Go.Proofs.Tryz.f27 = some g27 := by kernel_rfl
theorem c31 : Go.Vse.compFn Go.Proofs.Tryz.prog pur Go.Proofs.Tryz.f31 = some g31 := by kernel_rfl
theorem c35 : Go.Vse.compFn Go.Proofs.Tryz.prog pur Go.Proofs.Tryz.f35 = some g35 := by kernel_rfl
theorem c39 : Go.Vse.compFn Go.Proofs.Tryz.prog pur Go.Proofs.Tryz.f39 = some g39 := by kernel_rfl
theorem c44 : Go.Vse.compFn Go.Proofs.Tryz.prog pur Go.Proofs.Tryz.f44 = some g44 := by kernel_rfl
theorem c49 : Go.Vse.compFn Go.Proofs.Tryz.prog pur Go.Proofs.Tryz.f49 = some g49 := by kernel_rfl
theorem c54 : Go.Vse.compFn Go.Proofs.Tryz.prog pur Go.Proofs.Tryz.f54 = some g54 := by kernel_rfl
theorem c63 : Go.Vse.compFn Go.Proofs.Tryz.prog pur Go.Proofs.Tryz.f63 = some g63 := by kernel_rfl
theorem c67 : Go.Vse.compFn Go.Proofs.Tryz.prog pur Go.Proofs.Tryz.f67 = some g67 := by kernel_rfl
theorem c71 : Go.Vse.compFn Go.Proofs.Tryz.prog pur Go.Proofs.Tryz.f71 = some g71 := by kernel_rfl
theorem c75 : Go.Vse.compFn Go.Proofs.Tryz.prog pur Go.Proofs.Tryz.f75 = some g75 := by kernel_rfl
theorem c79 : Go.Vse.compFn Go.Proofs.Tryz.prog pur Go.Proofs.Tryz.f79 = some g79 := by kernel_rfl
theorem c83 : Go.Vse.compFn Go.Proofs.Tryz.prog pur Go.Proofs.Tryz.f83 = some g83 := by kernel_rfl
theorem c87 : Go.Vse.compFn Go.Proofs.Tryz.prog pur Go.Proofs.Tryz.f87 = some g87 := by kernel_rfl
theorem c91 : Go.Vse.compFn Go.Proofs.Tryz.prog pur Go.Proofs.Tryz.f91 = some g91 := by kernel_rfl
theorem c96 : Go.Vse.compFn Go.Proofs.Tryz.prog pur Go.Proofs.Tryz.f96 = some g96 := by kernel_rfl
theorem c104 : Go.Vse.compFn Go.Proofs.Tryz.prog pur Go.Proofs.Tryz.f104 = some g104 := by kernel_rfl
theorem c108 : Go.Vse.compFn Go.Proofs.Tryz.prog pur Go.Proofs.Tryz.f108 = some g108 := by kernel_rfl
theorem c112 : Go.Vse.compFn Go.Proofs.Tryz.prog pur Go.Proofs.Tryz.f112 = some g112 := by kernel_rfl
theorem c121 : Go.Vse.compFn Go.Proofs.Tryz.prog pur Go.Proofs.Tryz.f121 = some g121 := by kernel_rfl
theorem c128 : Go.Vse.compFn Go.Proofs.Tryz.prog pur Go.Proofs.Tryz.f128 = some g128 := by kernel_rfl
theorem c133 : Go.Vse.compFn Go.Proofs.Tryz.prog pur Go.Proofs.Tryz.f133 = some g133 := by kernel_rfl
theorem c139 : Go.Vse.compFn Go.Proofs.Tryz.prog pur Go.Proofs.Tryz.f139 = some g139 := by kernel_rfl
theorem c143 : Go.Vse.compFn Go.Proofs.Tryz.prog pur Go.Proofs.Tryz.f143 = some g143 := by kernel_rfl
theorem c147 : Go.Vse.compFn Go.Proofs.Tryz.prog pur Go.Proofs.Tryz.f147 = some g147 := by kernel_rfl
theorem c151 : Go.Vse.compFn Go.Proofs.Tryz.prog pur Go.Proofs.Tryz.f151 = some g151 := by kernel_rfl
theorem c161 : Go.Vse.compFn Go.Proofs.Tryz.prog pur Go.Proofs.Tryz.f161 = some g161 := by kernel_rfl
theorem c167 : Go.Vse.compFn Go.Proofs.Tryz.prog pur Go.Proofs.Tryz.f167 = some g167 := by kernel_rfl
theorem c172 : Go.Vse.compFn Go.Proofs.Tryz.prog pur Go.Proofs.Tryz.f172 = some g172 := by kernel_rfl
theorem c176 : Go.Vse.compFn Go.Proofs.Tryz.prog pur Go.Proofs.Tryz.f176 = some g176 := by kernel_rfl
theorem c186 : Go.Vse.compFn Go.Proofs.Tryz.prog pur Go.Proofs.Tryz.f186 = some g186 := by kernel_rfl
theorem c193 : Go.Vse.compFn Go.Proofs.Tryz.prog pur Go.Proofs.Tryz.f193 = some g193 := by kernel_rfl
theorem c206 : Go.Vse.compFn Go.Proofs.Tryz.prog pur Go.Proofs.Tryz.f206 = some g206 := by kernel_rfl
theorem c210 : Go.Vse.compFn Go.Proofs.Tryz.prog pur Go.Proofs.Tryz.f210 = some g210 := by kernel_rfl
theorem c215 : Go.Vse.compFn Go.Proofs.Tryz.prog pur Go.Proofs.Tryz.f215 = some g215 := by kernel_rfl
theorem c221 : Go.Vse.compFn Go.Proofs.Tryz.prog pur Go.Proofs.Tryz.f221 = some g221 := by kernel_rfl
theorem c227 : Go.Vse.compFn Go.Proofs.Tryz.prog pur Go.Proofs.Tryz.f227 = some g227 := by kernel_rfl
theorem c236 : Go.Vse.compFn Go.Proofs.Tryz.prog pur Go.Proofs.Tryz.f236 = some g236 := by kernel_rfl
theorem c242 : Go.Vse.compFn Go.Proofs.Tryz.prog pur Go.Proofs.Tryz.f242 = some g242 := by kernel_rfl
theorem c264 : Go.Vse.compFn Go.Proofs.Tryz.prog pur Go.Proofs.Tryz.f264 = some g264 := by kernel_rfl
theorem c272 : Go.Vse.compFn Go.Proofs.Tryz.prog pur Go.Proofs.Tryz.f272 = some g272 := by kernel_rfl
theorem c326 : Go.Vse.compFn Go.Proofs.Tryz.prog pur Go.Proofs.Tryz.f326 = some g326 := by kernel_rfl
end Go.Proofs.YtpflgdmkpcpogaaGreatDoor
