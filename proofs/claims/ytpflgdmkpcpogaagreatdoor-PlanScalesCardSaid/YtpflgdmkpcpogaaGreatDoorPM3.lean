/- Closed runs. Written by program. -/
import Derived.Test.YtpflgdmkpcpogaaGreatDoorPE
import Derived.Test.YtpflgdmkpcpogaaGreatDoorPM0
import Derived.Test.YtpflgdmkpcpogaaGreatDoorPM1
import Derived.Test.YtpflgdmkpcpogaaGreatDoorPM2
import Derived.KernelRfl
set_option linter.all false
namespace Go.Proofs.YtpflgdmkpcpogaaGreatDoor
open Go.Vse
open Go (BinOp IntKind UnOp)
set_option maxRecDepth 100000
theorem P734 : AnsE pr PE734 :=
  runE (mask := 2140871539058939821587428954174242704574119936) (n := 400) (l := [PE5, PE6]) ⟨P5, P6, trivial⟩ (by kernel_rfl)
theorem P737 : AnsE pr PE737 :=
  runE (mask := 29014219670751100192948224) (n := 400) (l := [PE12, PE733, PE734]) ⟨P12, P733, P734, trivial⟩ (by kernel_rfl)
theorem P742 : AnsE pr PE742 :=
  runE (mask := 0) (n := 400) (l := []) trivial (by kernel_rfl)
theorem P752 : AnsE pr PE752 :=
  runE (mask := 352321536) (n := 400) (l := [PE48, PE51, PE56, PE742]) ⟨P48, P51, P56, P742, trivial⟩ (by kernel_rfl)
theorem P753 : AnsE pr PE753 :=
  runE (mask := 0) (n := 400) (l := []) trivial (by kernel_rfl)
theorem P754 : AnsE pr PE754 :=
  runE (mask := 0) (n := 400) (l := []) trivial (by kernel_rfl)
theorem P758 : AnsE pr PE758 :=
  runE (mask := 0) (n := 400) (l := []) trivial (by kernel_rfl)
theorem P761 : AnsE pr PE761 :=
  runE (mask := 0) (n := 400) (l := []) trivial (by kernel_rfl)
theorem P764 : AnsE pr PE764 :=
  runE (mask := 81129638414634351811899636580864) (n := 400) (l := [PE45, PE752, PE753, PE754, PE758, PE761]) ⟨P45, P752, P753, P754, P758, P761, trivial⟩ (by kernel_rfl)
theorem P766 : AnsE pr PE766 :=
  runE (mask := 81129638414618210910835073613824) (n := 400) (l := [PE758, PE761, PE764]) ⟨P758, P761, P764, trivial⟩ (by kernel_rfl)
theorem P774 : AnsE pr PE774 :=
  runE (mask := 0) (n := 400) (l := []) trivial (by kernel_rfl)
theorem P780 : AnsE pr PE780 :=
  runE (mask := 2140871539058939821606771767288076771369418752) (n := 400) (l := [PE5, PE6, PE225, PE734]) ⟨P5, P6, P225, P734, trivial⟩ (by kernel_rfl)
theorem P783 : AnsE pr PE783 :=
  runE (mask := 1427247692705961188351981674481816564410613760) (n := 400) (l := [PE12, PE109, PE111, PE117, PE731, PE733, PE734, PE774, PE780]) ⟨P12, P109, P111, P117, P731, P733, P734, P774, P780, trivial⟩ (by kernel_rfl)
theorem P786 : AnsE pr PE786 :=
  runE (mask := 11150372599265311599782078807075315305676800) (n := 400) (l := [PE12, PE733, PE734, PE780, PE783]) ⟨P12, P733, P734, P780, P783, trivial⟩ (by kernel_rfl)
theorem P791 : AnsE pr PE791 :=
  runE (mask := 2923003274661805837675049317659398054865922949120) (n := 400) (l := [PE12, PE117, PE136, PE138, PE733, PE734, PE774]) ⟨P12, P117, P136, P138, P733, P734, P774, trivial⟩ (by kernel_rfl)
theorem P793 : AnsE pr PE793 :=
  runE (mask := 1684996666696914987166689836735301825305910967867985244088162058240) (n := 400) (l := [PE12, PE38, PE132, PE733, PE734, PE786, PE791]) ⟨P12, P38, P132, P733, P734, P786, P791, trivial⟩ (by kernel_rfl)
theorem P796 : AnsE pr PE796 :=
  runE (mask := 29023664403716839483375616) (n := 400) (l := [PE12, PE733, PE734, PE793]) ⟨P12, P733, P734, P793, trivial⟩ (by kernel_rfl)
theorem P797 : AnsE pr PE797 :=
  runE (mask := 0) (n := 400) (l := []) trivial (by kernel_rfl)
theorem P802 : AnsE pr PE802 :=
  runE (mask := 1684996666696914987166699593311326182453535389744725024181053292544) (n := 400) (l := [PE12, PE132, PE733, PE734, PE780, PE783, PE791]) ⟨P12, P132, P733, P734, P780, P783, P791, trivial⟩ (by kernel_rfl)
theorem P806 : AnsE pr PE806 :=
  runE (mask := 536870912) (n := 400) (l := [PE802]) ⟨P802, trivial⟩ (by kernel_rfl)
theorem P807 : AnsE pr PE807 :=
  runE (mask := 1361129508248573061166062649658768897584) (n := 400) (l := [PE40, PE89, PE96, PE103, PE369, PE737, PE752, PE754, PE758, PE766, PE796, PE797, PE806]) ⟨P40, P89, P96, P103, P369, P737, P752, P754, P758, P766, P796, P797, P806, trivial⟩ (by kernel_rfl)
theorem P811 : AnsE pr PE811 :=
  runE (mask := 1361129508248573061166062649658768897072) (n := 400) (l := [PE40, PE96, PE103, PE369, PE375, PE737, PE742, PE753, PE758, PE766, PE796, PE806]) ⟨P40, P96, P103, P369, P375, P737, P742, P753, P758, P766, P796, P806, trivial⟩ (by kernel_rfl)
end Go.Proofs.YtpflgdmkpcpogaaGreatDoor
