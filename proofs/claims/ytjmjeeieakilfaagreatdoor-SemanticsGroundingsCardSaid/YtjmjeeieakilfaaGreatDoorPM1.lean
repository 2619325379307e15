/- Closed runs. Written by program. -/
import Derived.Test.YtjmjeeieakilfaaGreatDoorPE
import Derived.Test.YtjmjeeieakilfaaGreatDoorPM0
import Derived.KernelRfl
set_option linter.all false
namespace Go.Proofs.YtjmjeeieakilfaaGreatDoor
open Go.Vse
open Go (BinOp IntKind UnOp)
set_option maxRecDepth 100000
theorem P374 : AnsE pr PE374 :=
  runE (mask := 948585078294646645429722017002661022345917350868268127718957726248205534753718272) (n := 400) (l := [PE7, PE9, PE14, PE15, PE223, PE240, PE249, PE256, PE257, PE268, PE274, PE276, PE283, PE287, PE289, PE291, PE312, PE320, PE321, PE329, PE337, PE339]) ⟨P7, P9, P14, P15, P223, P240, P249, P256, P257, P268, P274, P276, P283, P287, P289, P291, P312, P320, P321, P329, P337, P339, trivial⟩ (by kernel_rfl)
theorem P383 : AnsE pr PE383 :=
  runE (mask := 0) (n := 400) (l := []) trivial (by kernel_rfl)
theorem P390 : AnsE pr PE390 :=
  runE (mask := 0) (n := 400) (l := []) trivial (by kernel_rfl)
theorem P393 : AnsE pr PE393 :=
  runE (mask := 11417984263906614415975204388412435191562240000) (n := 400) (l := [PE37, PE40, PE45, PE383, PE390]) ⟨P37, P40, P45, P383, P390, trivial⟩ (by kernel_rfl)
theorem P394 : AnsE pr PE394 :=
  runE (mask := 0) (n := 400) (l := []) trivial (by kernel_rfl)
theorem P395 : AnsE pr PE395 :=
  runE (mask := 0) (n := 400) (l := []) trivial (by kernel_rfl)
theorem P399 : AnsE pr PE399 :=
  runE (mask := 0) (n := 400) (l := []) trivial (by kernel_rfl)
theorem P402 : AnsE pr PE402 :=
  runE (mask := 0) (n := 400) (l := []) trivial (by kernel_rfl)
theorem P406 : AnsE pr PE406 :=
  runE (mask := 44601490397061246284828156876924248748195840) (n := 400) (l := [PE34, PE55, PE58, PE59, PE61, PE77, PE393, PE394, PE395, PE399, PE402]) ⟨P34, P55, P58, P59, P61, P77, P393, P394, P395, P399, P402, trivial⟩ (by kernel_rfl)
theorem P408 : AnsE pr PE408 :=
  runE (mask := 1360041547066458492633088) (n := 400) (l := [PE55, PE399, PE402, PE406]) ⟨P55, P399, P402, P406, trivial⟩ (by kernel_rfl)
theorem P417 : AnsE pr PE417 :=
  runE (mask := 18889465931478580854784) (n := 400) (l := [PE34]) ⟨P34, trivial⟩ (by kernel_rfl)
theorem P419 : AnsE pr PE419 :=
  runE (mask := 34359739392) (n := 400) (l := [PE408, PE417]) ⟨P408, P417, trivial⟩ (by kernel_rfl)
theorem P432 : AnsE pr PE432 :=
  runE (mask := 1511157274518286468382720) (n := 400) (l := [PE55, PE58]) ⟨P55, P58, trivial⟩ (by kernel_rfl)
theorem P435 : AnsE pr PE435 :=
  runE (mask := 302231454903657830547456) (n := 400) (l := [PE393, PE399]) ⟨P393, P399, trivial⟩ (by kernel_rfl)
theorem P441 : AnsE pr PE441 :=
  runE (mask := 2807329527097742323572840511329267613696) (n := 400) (l := [PE44, PE59, PE394, PE395, PE432, PE435]) ⟨P44, P59, P394, P395, P432, P435, trivial⟩ (by kernel_rfl)
theorem P445 : AnsE pr PE445 :=
  runE (mask := 0) (n := 400) (l := []) trivial (by kernel_rfl)
theorem P448 : AnsE pr PE448 :=
  runE (mask := 0) (n := 400) (l := []) trivial (by kernel_rfl)
theorem P454 : AnsE pr PE454 :=
  runE (mask := 0) (n := 400) (l := []) trivial (by kernel_rfl)
theorem P456 : AnsE pr PE456 :=
  runE (mask := 0) (n := 400) (l := []) trivial (by kernel_rfl)
theorem P460 : AnsE pr PE460 :=
  runE (mask := 0) (n := 400) (l := []) trivial (by kernel_rfl)
theorem P463 : AnsE pr PE463 :=
  runE (mask := 0) (n := 400) (l := []) trivial (by kernel_rfl)
theorem P476 : AnsE pr PE476 :=
  runE (mask := 0) (n := 400) (l := []) trivial (by kernel_rfl)
theorem P479 : AnsE pr PE479 :=
  runE (mask := 0) (n := 400) (l := []) trivial (by kernel_rfl)
theorem P499 : AnsE pr PE499 :=
  runE (mask := 2722258935367507707706996859471325560832) (n := 400) (l := [PE383, PE394, PE456, PE479]) ⟨P383, P394, P456, P479, trivial⟩ (by kernel_rfl)
theorem P524 : AnsE pr PE524 :=
  runE (mask := 2722258935367507707706996859471325560832) (n := 400) (l := [PE44, PE59, PE456, PE479]) ⟨P44, P59, P456, P479, trivial⟩ (by kernel_rfl)
theorem P537 : AnsE pr PE537 :=
  runE (mask := 98079714627013277245499660868961912643952467437173081216) (n := 400) (l := [PE34, PE37, PE40, PE44, PE45, PE55, PE59, PE383, PE394, PE395, PE408, PE419, PE432, PE435, PE441, PE445, PE448, PE454, PE456, PE460, PE463, PE476, PE499, PE524]) ⟨P34, P37, P40, P44, P45, P55, P59, P383, P394, P395, P408, P419, P432, P435, P441, P445, P448, P454, P456, P460, P463, P476, P499, P524, trivial⟩ (by kernel_rfl)
theorem P546 : AnsE pr PE546 :=
  runE (mask := 0) (n := 400) (l := []) trivial (by kernel_rfl)
theorem P552 : AnsE pr PE552 :=
  runE (mask := 98081211204511498128499656457098310072413287100176663680) (n := 400) (l := [PE37, PE40, PE44, PE45, PE55, PE59, PE312, PE374, PE383, PE390, PE394, PE408, PE419, PE432, PE435, PE441, PE445, PE448, PE454, PE456, PE476, PE479, PE499, PE524, PE537, PE546]) ⟨P37, P40, P44, P45, P55, P59, P312, P374, P383, P390, P394, P408, P419, P432, P435, P441, P445, P448, P454, P456, P476, P479, P499, P524, P537, P546, trivial⟩ (by kernel_rfl)
theorem P553 : AnsE pr PE553 :=
  runE (mask := 448) (n := 400) (l := [PE18, PE201, PE552]) ⟨P18, P201, P552, trivial⟩ (by kernel_rfl)
end Go.Proofs.YtjmjeeieakilfaaGreatDoor
