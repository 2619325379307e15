/- Closed runs. Written by program. -/
import Derived.Test.YtjmjeeieakilfaaGreatDoorPE
import Derived.Test.YtjmjeeieakilfaaGreatDoorPM0
import Derived.Test.YtjmjeeieakilfaaGreatDoorPM1
import Derived.KernelRfl
set_option linter.all false
namespace Go.Proofs.YtjmjeeieakilfaaGreatDoor
open Go.Vse
open Go (BinOp IntKind UnOp)
set_option maxRecDepth 100000
theorem P556 : AnsE pr PE556 :=
  runE (mask := 277025391936) (n := 400) (l := [PE18, PE167, PE196, PE200, PE552]) ⟨P18, P167, P196, P200, P552, trivial⟩ (by kernel_rfl)
theorem P560 : AnsE pr PE560 :=
  runE (mask := 34359739712) (n := 400) (l := [PE18, PE167, PE417, PE552]) ⟨P18, P167, P417, P552, trivial⟩ (by kernel_rfl)
theorem P561 : AnsE pr PE561 :=
  runE (mask := 448) (n := 400) (l := [PE18, PE201, PE552]) ⟨P18, P201, P552, trivial⟩ (by kernel_rfl)
theorem P567 : AnsE pr PE567 :=
  runE (mask := 0) (n := 400) (l := []) trivial (by kernel_rfl)
theorem P569 : AnsE pr PE569 :=
  runE (mask := 0) (n := 400) (l := []) trivial (by kernel_rfl)
theorem P585 : AnsE pr PE585 :=
  runE (mask := 44601490397061246284828156876924248211324928) (n := 400) (l := [PE34, PE55, PE58, PE59, PE61, PE72, PE77, PE82, PE87, PE92, PE97, PE102, PE107, PE112, PE117, PE122, PE127, PE132, PE567, PE569]) ⟨P34, P55, P58, P59, P61, P72, P77, P82, P87, P92, P97, P102, P107, P112, P117, P122, P127, P132, P567, P569, trivial⟩ (by kernel_rfl)
theorem P587 : AnsE pr PE587 :=
  runE (mask := 1360041547066457955762176) (n := 400) (l := [PE55, PE569, PE585]) ⟨P55, P569, P585, trivial⟩ (by kernel_rfl)
theorem P589 : AnsE pr PE589 :=
  runE (mask := 294205260800) (n := 400) (l := [PE59, PE196, PE200, PE587]) ⟨P59, P196, P200, P587, trivial⟩ (by kernel_rfl)
theorem P590 : AnsE pr PE590 :=
  runE (mask := 448) (n := 400) (l := [PE18, PE552, PE589]) ⟨P18, P552, P589, trivial⟩ (by kernel_rfl)
theorem P592 : AnsE pr PE592 :=
  runE (mask := 277025391936) (n := 400) (l := [PE18, PE196, PE200, PE552, PE587]) ⟨P18, P196, P200, P552, P587, trivial⟩ (by kernel_rfl)
theorem P594 : AnsE pr PE594 :=
  runE (mask := 34359739712) (n := 400) (l := [PE18, PE417, PE552, PE587]) ⟨P18, P417, P552, P587, trivial⟩ (by kernel_rfl)
theorem P595 : AnsE pr PE595 :=
  runE (mask := 448) (n := 400) (l := [PE18, PE552, PE589]) ⟨P18, P552, P589, trivial⟩ (by kernel_rfl)
theorem P601 : AnsE pr PE601 :=
  runE (mask := 0) (n := 400) (l := []) trivial (by kernel_rfl)
theorem P603 : AnsE pr PE603 :=
  runE (mask := 0) (n := 400) (l := []) trivial (by kernel_rfl)
theorem P620 : AnsE pr PE620 :=
  runE (mask := 44601490397061246284828156876924248211324928) (n := 400) (l := [PE34, PE55, PE58, PE59, PE61, PE72, PE77, PE82, PE87, PE92, PE97, PE102, PE107, PE112, PE117, PE122, PE127, PE132, PE567, PE601, PE603]) ⟨P34, P55, P58, P59, P61, P72, P77, P82, P87, P92, P97, P102, P107, P112, P117, P122, P127, P132, P567, P601, P603, trivial⟩ (by kernel_rfl)
theorem P622 : AnsE pr PE622 :=
  runE (mask := 1360041547066457955762176) (n := 400) (l := [PE55, PE603, PE620]) ⟨P55, P603, P620, trivial⟩ (by kernel_rfl)
theorem P624 : AnsE pr PE624 :=
  runE (mask := 294205260800) (n := 400) (l := [PE59, PE196, PE200, PE622]) ⟨P59, P196, P200, P622, trivial⟩ (by kernel_rfl)
theorem P625 : AnsE pr PE625 :=
  runE (mask := 448) (n := 400) (l := [PE18, PE552, PE624]) ⟨P18, P552, P624, trivial⟩ (by kernel_rfl)
end Go.Proofs.YtjmjeeieakilfaaGreatDoor
