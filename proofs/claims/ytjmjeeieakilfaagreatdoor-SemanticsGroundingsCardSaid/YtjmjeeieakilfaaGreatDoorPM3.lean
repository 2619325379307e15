/- Closed runs. Written by program. -/
import Derived.Test.YtjmjeeieakilfaaGreatDoorPE
import Derived.Test.YtjmjeeieakilfaaGreatDoorPM0
import Derived.Test.YtjmjeeieakilfaaGreatDoorPM1
import Derived.Test.YtjmjeeieakilfaaGreatDoorPM2
import Derived.KernelRfl
set_option linter.all false
namespace Go.Proofs.YtjmjeeieakilfaaGreatDoor
open Go.Vse
open Go (BinOp IntKind UnOp)
set_option maxRecDepth 100000
theorem P627 : AnsE pr PE627 :=
  runE (mask := 277025391936) (n := 400) (l := [PE18, PE196, PE200, PE552, PE622]) ⟨P18, P196, P200, P552, P622, trivial⟩ (by kernel_rfl)
theorem P629 : AnsE pr PE629 :=
  runE (mask := 34359739712) (n := 400) (l := [PE18, PE417, PE552, PE622]) ⟨P18, P417, P552, P622, trivial⟩ (by kernel_rfl)
theorem P630 : AnsE pr PE630 :=
  runE (mask := 448) (n := 400) (l := [PE18, PE552, PE624]) ⟨P18, P552, P624, trivial⟩ (by kernel_rfl)
theorem P638 : AnsE pr PE638 :=
  runE (mask := 0) (n := 400) (l := []) trivial (by kernel_rfl)
theorem P656 : AnsE pr PE656 :=
  runE (mask := 44601490397061246284828156876924248211324928) (n := 400) (l := [PE34, PE55, PE58, PE59, PE61, PE72, PE77, PE82, PE87, PE92, PE97, PE102, PE107, PE112, PE117, PE122, PE127, PE132, PE567, PE601, PE638]) ⟨P34, P55, P58, P59, P61, P72, P77, P82, P87, P92, P97, P102, P107, P112, P117, P122, P127, P132, P567, P601, P638, trivial⟩ (by kernel_rfl)
theorem P658 : AnsE pr PE658 :=
  runE (mask := 1360041547066457955762176) (n := 400) (l := [PE55, PE638, PE656]) ⟨P55, P638, P656, trivial⟩ (by kernel_rfl)
theorem P660 : AnsE pr PE660 :=
  runE (mask := 294205260800) (n := 400) (l := [PE59, PE196, PE200, PE658]) ⟨P59, P196, P200, P658, trivial⟩ (by kernel_rfl)
theorem P661 : AnsE pr PE661 :=
  runE (mask := 448) (n := 400) (l := [PE18, PE552, PE660]) ⟨P18, P552, P660, trivial⟩ (by kernel_rfl)
theorem P662 : AnsE pr PE662 :=
  runE (mask := 277025391616) (n := 400) (l := [PE196, PE200, PE658]) ⟨P196, P200, P658, trivial⟩ (by kernel_rfl)
theorem P663 : AnsE pr PE663 :=
  runE (mask := 448) (n := 400) (l := [PE18, PE552, PE662]) ⟨P18, P552, P662, trivial⟩ (by kernel_rfl)
theorem P665 : AnsE pr PE665 :=
  runE (mask := 34359739712) (n := 400) (l := [PE18, PE417, PE552, PE658]) ⟨P18, P417, P552, P658, trivial⟩ (by kernel_rfl)
theorem P666 : AnsE pr PE666 :=
  runE (mask := 448) (n := 400) (l := [PE18, PE552, PE660]) ⟨P18, P552, P660, trivial⟩ (by kernel_rfl)
end Go.Proofs.YtjmjeeieakilfaaGreatDoor
