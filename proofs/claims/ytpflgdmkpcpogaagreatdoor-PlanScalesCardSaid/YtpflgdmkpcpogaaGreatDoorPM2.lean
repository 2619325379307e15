/- Closed runs. Written by program. -/
import Derived.Test.YtpflgdmkpcpogaaGreatDoorPE
import Derived.Test.YtpflgdmkpcpogaaGreatDoorPM0
import Derived.Test.YtpflgdmkpcpogaaGreatDoorPM1
import Derived.KernelRfl
set_option linter.all false
namespace Go.Proofs.YtpflgdmkpcpogaaGreatDoor
open Go.Vse
open Go (BinOp IntKind UnOp)
set_option maxRecDepth 100000
theorem P463 : AnsE pr PE463 :=
  runE (mask := 2140871539058939821587428954174242704574119936) (n := 400) (l := [PE5, PE6]) ⟨P5, P6, trivial⟩ (by kernel_rfl)
theorem P466 : AnsE pr PE466 :=
  runE (mask := 29014219670751100192948224) (n := 400) (l := [PE12, PE462, PE463]) ⟨P12, P462, P463, trivial⟩ (by kernel_rfl)
theorem P471 : AnsE pr PE471 :=
  runE (mask := 0) (n := 400) (l := []) trivial (by kernel_rfl)
theorem P481 : AnsE pr PE481 :=
  runE (mask := 352321536) (n := 400) (l := [PE48, PE51, PE56, PE471]) ⟨P48, P51, P56, P471, trivial⟩ (by kernel_rfl)
theorem P482 : AnsE pr PE482 :=
  runE (mask := 0) (n := 400) (l := []) trivial (by kernel_rfl)
theorem P483 : AnsE pr PE483 :=
  runE (mask := 0) (n := 400) (l := []) trivial (by kernel_rfl)
theorem P487 : AnsE pr PE487 :=
  runE (mask := 0) (n := 400) (l := []) trivial (by kernel_rfl)
theorem P490 : AnsE pr PE490 :=
  runE (mask := 0) (n := 400) (l := []) trivial (by kernel_rfl)
theorem P493 : AnsE pr PE493 :=
  runE (mask := 81129638414634351811899636580864) (n := 400) (l := [PE45, PE481, PE482, PE483, PE487, PE490]) ⟨P45, P481, P482, P483, P487, P490, trivial⟩ (by kernel_rfl)
theorem P495 : AnsE pr PE495 :=
  runE (mask := 81129638414618210910835073613824) (n := 400) (l := [PE487, PE490, PE493]) ⟨P487, P490, P493, trivial⟩ (by kernel_rfl)
theorem P503 : AnsE pr PE503 :=
  runE (mask := 0) (n := 400) (l := []) trivial (by kernel_rfl)
theorem P507 : AnsE pr PE507 :=
  runE (mask := 2140871539058939821606771767288076771369418752) (n := 400) (l := [PE5, PE6, PE225, PE227, PE463]) ⟨P5, P6, P225, P227, P463, trivial⟩ (by kernel_rfl)
theorem P510 : AnsE pr PE510 :=
  runE (mask := 1307293695705032321428027867136) (n := 400) (l := [PE12, PE109, PE111, PE117, PE462, PE463, PE503, PE507]) ⟨P12, P109, P111, P117, P462, P463, P503, P507, trivial⟩ (by kernel_rfl)
theorem P513 : AnsE pr PE513 :=
  runE (mask := 11150372599265311599782078807075315305676800) (n := 400) (l := [PE12, PE462, PE463, PE507, PE510]) ⟨P12, P462, P463, P507, P510, trivial⟩ (by kernel_rfl)
theorem P518 : AnsE pr PE518 :=
  runE (mask := 2923003274661805837675049317659398054865922949120) (n := 400) (l := [PE12, PE117, PE136, PE138, PE462, PE463, PE503]) ⟨P12, P117, P136, P138, P462, P463, P503, trivial⟩ (by kernel_rfl)
theorem P520 : AnsE pr PE520 :=
  runE (mask := 1684996666696914987166689836735301825305910967867985244088162058240) (n := 400) (l := [PE12, PE38, PE132, PE462, PE463, PE513, PE518]) ⟨P12, P38, P132, P462, P463, P513, P518, trivial⟩ (by kernel_rfl)
theorem P523 : AnsE pr PE523 :=
  runE (mask := 29023664403716839483375616) (n := 400) (l := [PE12, PE462, PE463, PE520]) ⟨P12, P462, P463, P520, trivial⟩ (by kernel_rfl)
theorem P524 : AnsE pr PE524 :=
  runE (mask := 0) (n := 400) (l := []) trivial (by kernel_rfl)
theorem P529 : AnsE pr PE529 :=
  runE (mask := 1684996666696914987166699593311326182453535389744725024181053292544) (n := 400) (l := [PE12, PE132, PE462, PE463, PE507, PE510, PE518]) ⟨P12, P132, P462, P463, P507, P510, P518, trivial⟩ (by kernel_rfl)
theorem P533 : AnsE pr PE533 :=
  runE (mask := 536870912) (n := 400) (l := [PE529]) ⟨P529, trivial⟩ (by kernel_rfl)
theorem P534 : AnsE pr PE534 :=
  runE (mask := 1361129508248573061166062649658768897584) (n := 400) (l := [PE40, PE89, PE96, PE103, PE369, PE466, PE481, PE483, PE487, PE495, PE523, PE524, PE533]) ⟨P40, P89, P96, P103, P369, P466, P481, P483, P487, P495, P523, P524, P533, trivial⟩ (by kernel_rfl)
theorem P538 : AnsE pr PE538 :=
  runE (mask := 1361129508248573061166062649658768897072) (n := 400) (l := [PE40, PE96, PE103, PE369, PE375, PE466, PE471, PE482, PE487, PE495, PE523, PE533]) ⟨P40, P96, P103, P369, P375, P466, P471, P482, P487, P495, P523, P533, trivial⟩ (by kernel_rfl)
theorem P548 : AnsE pr PE548 :=
  runE (mask := 83886080) (n := 400) (l := [PE48, PE51]) ⟨P48, P51, trivial⟩ (by kernel_rfl)
theorem P553 : AnsE pr PE553 :=
  runE (mask := 0) (n := 400) (l := []) trivial (by kernel_rfl)
theorem P556 : AnsE pr PE556 :=
  runE (mask := 0) (n := 400) (l := []) trivial (by kernel_rfl)
theorem P559 : AnsE pr PE559 :=
  runE (mask := 81129638414634351811899636580864) (n := 400) (l := [PE45, PE51, PE548, PE553, PE556]) ⟨P45, P51, P548, P553, P556, trivial⟩ (by kernel_rfl)
theorem P561 : AnsE pr PE561 :=
  runE (mask := 81129638414618210910835073613824) (n := 400) (l := [PE553, PE556, PE559]) ⟨P553, P556, P559, trivial⟩ (by kernel_rfl)
theorem P570 : AnsE pr PE570 :=
  runE (mask := 2140871539058941128881124659206564132601987072) (n := 400) (l := [PE5, PE6, PE12, PE109, PE111, PE117, PE131]) ⟨P5, P6, P12, P109, P111, P117, P131, trivial⟩ (by kernel_rfl)
theorem P572 : AnsE pr PE572 :=
  runE (mask := 11150372599265311599819857738938238107648000) (n := 400) (l := [PE12, PE109, PE136, PE570]) ⟨P12, P109, P136, P570, trivial⟩ (by kernel_rfl)
theorem P577 : AnsE pr PE577 :=
  runE (mask := 2923003274661805837675049317659398054865922949120) (n := 400) (l := [PE12, PE109, PE117, PE136, PE138]) ⟨P12, P109, P117, P136, P138, trivial⟩ (by kernel_rfl)
theorem P579 : AnsE pr PE579 :=
  runE (mask := 1684996666696914987166689836735301825305910967867985244088162058240) (n := 400) (l := [PE12, PE38, PE109, PE132, PE572, PE577]) ⟨P12, P38, P109, P132, P572, P577, trivial⟩ (by kernel_rfl)
theorem P582 : AnsE pr PE582 :=
  runE (mask := 29023664403716839483375616) (n := 400) (l := [PE12, PE109, PE579]) ⟨P12, P109, P579, trivial⟩ (by kernel_rfl)
theorem P586 : AnsE pr PE586 :=
  runE (mask := 1684996666696914987166699593311326182453535427523656887103855263744) (n := 400) (l := [PE12, PE109, PE132, PE136, PE570, PE577]) ⟨P12, P109, P132, P136, P570, P577, trivial⟩ (by kernel_rfl)
theorem P590 : AnsE pr PE590 :=
  runE (mask := 536870912) (n := 400) (l := [PE586]) ⟨P586, trivial⟩ (by kernel_rfl)
theorem P591 : AnsE pr PE591 :=
  runE (mask := 1361129508248573061166062649658433369632) (n := 400) (l := [PE40, PE89, PE96, PE103, PE174, PE369, PE548, PE553, PE561, PE582, PE590]) ⟨P40, P89, P96, P103, P174, P369, P548, P553, P561, P582, P590, trivial⟩ (by kernel_rfl)
theorem P593 : AnsE pr PE593 :=
  runE (mask := 335544320) (n := 400) (l := [PE51, PE56]) ⟨P51, P56, trivial⟩ (by kernel_rfl)
theorem P594 : AnsE pr PE594 :=
  runE (mask := 1361129508248573061166062649658433371168) (n := 400) (l := [PE40, PE96, PE103, PE174, PE369, PE375, PE553, PE561, PE582, PE590, PE593]) ⟨P40, P96, P103, P174, P369, P375, P553, P561, P582, P590, P593, trivial⟩ (by kernel_rfl)
theorem P597 : AnsE pr PE597 :=
  runE (mask := 34359738368) (n := 400) (l := [PE131]) ⟨P131, trivial⟩ (by kernel_rfl)
theorem P604 : AnsE pr PE604 :=
  runE (mask := 0) (n := 400) (l := []) trivial (by kernel_rfl)
theorem P607 : AnsE pr PE607 :=
  runE (mask := 0) (n := 400) (l := []) trivial (by kernel_rfl)
theorem P610 : AnsE pr PE610 :=
  runE (mask := 81129638414634351811899653357568) (n := 400) (l := [PE45, PE48, PE51, PE553, PE604, PE607]) ⟨P45, P48, P51, P553, P604, P607, trivial⟩ (by kernel_rfl)
theorem P612 : AnsE pr PE612 :=
  runE (mask := 81129638414618210910835073613824) (n := 400) (l := [PE604, PE607, PE610]) ⟨P604, P607, P610, trivial⟩ (by kernel_rfl)
theorem P620 : AnsE pr PE620 :=
  runE (mask := 1307293733483964184350829838336) (n := 400) (l := [PE12, PE109, PE111, PE117, PE134, PE136]) ⟨P12, P109, P111, P117, P134, P136, trivial⟩ (by kernel_rfl)
theorem P621 : AnsE pr PE621 :=
  runE (mask := 11150372599265311599819857738938238107648000) (n := 400) (l := [PE12, PE109, PE136, PE620]) ⟨P12, P109, P136, P620, trivial⟩ (by kernel_rfl)
theorem P625 : AnsE pr PE625 :=
  runE (mask := 1267650638007161264488224653312) (n := 400) (l := [PE117, PE131, PE136]) ⟨P117, P131, P136, trivial⟩ (by kernel_rfl)
theorem P627 : AnsE pr PE627 :=
  runE (mask := 1684996666696914987166689836735301825305881991427246355945130819584) (n := 400) (l := [PE38, PE132, PE136, PE621, PE625]) ⟨P38, P132, P136, P621, P625, trivial⟩ (by kernel_rfl)
theorem P630 : AnsE pr PE630 :=
  runE (mask := 47223664828696452136960) (n := 400) (l := [PE136, PE627]) ⟨P136, P627, trivial⟩ (by kernel_rfl)
theorem P633 : AnsE pr PE633 :=
  runE (mask := 1684996666696914987166699593311326182453535427523656887103855263744) (n := 400) (l := [PE12, PE109, PE132, PE136, PE620, PE625]) ⟨P12, P109, P132, P136, P620, P625, trivial⟩ (by kernel_rfl)
theorem P637 : AnsE pr PE637 :=
  runE (mask := 536870912) (n := 400) (l := [PE633]) ⟨P633, trivial⟩ (by kernel_rfl)
theorem P638 : AnsE pr PE638 :=
  runE (mask := 1361129508248573061166062649658517240880) (n := 400) (l := [PE40, PE48, PE51, PE89, PE96, PE103, PE369, PE553, PE593, PE597, PE604, PE612, PE630, PE637]) ⟨P40, P48, P51, P89, P96, P103, P369, P553, P593, P597, P604, P612, P630, P637, trivial⟩ (by kernel_rfl)
theorem P640 : AnsE pr PE640 :=
  runE (mask := 1361129508248573061166062649658433352752) (n := 400) (l := [PE40, PE96, PE103, PE369, PE375, PE597, PE604, PE612, PE630, PE637]) ⟨P40, P96, P103, P369, P375, P597, P604, P612, P630, P637, trivial⟩ (by kernel_rfl)
theorem P645 : AnsE pr PE645 :=
  runE (mask := 0) (n := 400) (l := []) trivial (by kernel_rfl)
theorem P646 : AnsE pr PE646 :=
  runE (mask := 2140871539058939821587428954174242704574119936) (n := 400) (l := [PE5, PE6, PE225, PE645]) ⟨P5, P6, P225, P645, trivial⟩ (by kernel_rfl)
theorem P647 : AnsE pr PE647 :=
  runE (mask := 2140871539058939821587428954174242704574119936) (n := 400) (l := [PE5, PE6]) ⟨P5, P6, trivial⟩ (by kernel_rfl)
theorem P650 : AnsE pr PE650 :=
  runE (mask := 29014219670751100192948224) (n := 400) (l := [PE227, PE646, PE647]) ⟨P227, P646, P647, trivial⟩ (by kernel_rfl)
theorem P655 : AnsE pr PE655 :=
  runE (mask := 0) (n := 400) (l := []) trivial (by kernel_rfl)
theorem P666 : AnsE pr PE666 :=
  runE (mask := 352321536) (n := 400) (l := [PE48, PE51, PE655]) ⟨P48, P51, P655, trivial⟩ (by kernel_rfl)
theorem P667 : AnsE pr PE667 :=
  runE (mask := 0) (n := 400) (l := []) trivial (by kernel_rfl)
theorem P668 : AnsE pr PE668 :=
  runE (mask := 0) (n := 400) (l := []) trivial (by kernel_rfl)
theorem P672 : AnsE pr PE672 :=
  runE (mask := 0) (n := 400) (l := []) trivial (by kernel_rfl)
theorem P675 : AnsE pr PE675 :=
  runE (mask := 0) (n := 400) (l := []) trivial (by kernel_rfl)
theorem P678 : AnsE pr PE678 :=
  runE (mask := 81129638414634351811899636580864) (n := 400) (l := [PE45, PE666, PE667, PE668, PE672, PE675]) ⟨P45, P666, P667, P668, P672, P675, trivial⟩ (by kernel_rfl)
theorem P680 : AnsE pr PE680 :=
  runE (mask := 81129638414618210910835073613824) (n := 400) (l := [PE672, PE675, PE678]) ⟨P672, P675, P678, trivial⟩ (by kernel_rfl)
theorem P688 : AnsE pr PE688 :=
  runE (mask := 0) (n := 400) (l := []) trivial (by kernel_rfl)
theorem P689 : AnsE pr PE689 :=
  runE (mask := 0) (n := 400) (l := []) trivial (by kernel_rfl)
theorem P694 : AnsE pr PE694 :=
  runE (mask := 2140871539058939821606771767288076771369418752) (n := 400) (l := [PE5, PE6, PE13, PE647]) ⟨P5, P6, P13, P647, trivial⟩ (by kernel_rfl)
theorem P697 : AnsE pr PE697 :=
  runE (mask := 1427247692705961188351981674481816564410613760) (n := 400) (l := [PE12, PE109, PE111, PE227, PE645, PE646, PE647, PE688, PE689, PE694]) ⟨P12, P109, P111, P227, P645, P646, P647, P688, P689, P694, trivial⟩ (by kernel_rfl)
theorem P700 : AnsE pr PE700 :=
  runE (mask := 11150372599265311599782078807075315305676800) (n := 400) (l := [PE227, PE646, PE647, PE694, PE697]) ⟨P227, P646, P647, P694, P697, trivial⟩ (by kernel_rfl)
theorem P705 : AnsE pr PE705 :=
  runE (mask := 2923003274661805837675049317659398054865922949120) (n := 400) (l := [PE136, PE221, PE227, PE646, PE647, PE688, PE689]) ⟨P136, P221, P227, P646, P647, P688, P689, trivial⟩ (by kernel_rfl)
theorem P707 : AnsE pr PE707 :=
  runE (mask := 1684996666696914987166689836735301825305910967867985244088162058240) (n := 400) (l := [PE38, PE132, PE227, PE646, PE647, PE700, PE705]) ⟨P38, P132, P227, P646, P647, P700, P705, trivial⟩ (by kernel_rfl)
theorem P710 : AnsE pr PE710 :=
  runE (mask := 29023664403716839483375616) (n := 400) (l := [PE227, PE646, PE647, PE707]) ⟨P227, P646, P647, P707, trivial⟩ (by kernel_rfl)
theorem P711 : AnsE pr PE711 :=
  runE (mask := 0) (n := 400) (l := []) trivial (by kernel_rfl)
theorem P716 : AnsE pr PE716 :=
  runE (mask := 1684996666696914987166699593311326182453535389744725024181053292544) (n := 400) (l := [PE132, PE227, PE646, PE647, PE694, PE697, PE705]) ⟨P132, P227, P646, P647, P694, P697, P705, trivial⟩ (by kernel_rfl)
theorem P720 : AnsE pr PE720 :=
  runE (mask := 536870912) (n := 400) (l := [PE716]) ⟨P716, trivial⟩ (by kernel_rfl)
theorem P721 : AnsE pr PE721 :=
  runE (mask := 1361129508248573061166062649658768897584) (n := 400) (l := [PE40, PE89, PE96, PE103, PE369, PE650, PE666, PE668, PE672, PE680, PE710, PE711, PE720]) ⟨P40, P89, P96, P103, P369, P650, P666, P668, P672, P680, P710, P711, P720, trivial⟩ (by kernel_rfl)
theorem P723 : AnsE pr PE723 :=
  runE (mask := 0) (n := 400) (l := []) trivial (by kernel_rfl)
theorem P726 : AnsE pr PE726 :=
  runE (mask := 1361129508248573061166062649658768897072) (n := 400) (l := [PE40, PE96, PE103, PE369, PE375, PE650, PE667, PE672, PE680, PE710, PE720, PE723]) ⟨P40, P96, P103, P369, P375, P650, P667, P672, P680, P710, P720, P723, trivial⟩ (by kernel_rfl)
theorem P731 : AnsE pr PE731 :=
  runE (mask := 0) (n := 400) (l := []) trivial (by kernel_rfl)
theorem P733 : AnsE pr PE733 :=
  runE (mask := 2140871539058939821587428954174242704574119936) (n := 400) (l := [PE5, PE6, PE225, PE731]) ⟨P5, P6, P225, P731, trivial⟩ (by kernel_rfl)
end Go.Proofs.YtpflgdmkpcpogaaGreatDoor
