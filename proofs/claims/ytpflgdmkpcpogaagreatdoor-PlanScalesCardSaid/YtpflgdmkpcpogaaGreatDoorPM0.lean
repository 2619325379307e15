/- Closed runs. Written by program. -/
import Derived.Test.YtpflgdmkpcpogaaGreatDoorPE
import Derived.KernelRfl
set_option linter.all false
namespace Go.Proofs.YtpflgdmkpcpogaaGreatDoor
open Go.Vse
open Go (BinOp IntKind UnOp)
set_option maxRecDepth 100000
theorem P5 : AnsE pr PE5 :=
  runE (mask := 0) (n := 400) (l := []) trivial (by kernel_rfl)
theorem P6 : AnsE pr PE6 :=
  runE (mask := 713623846352979940529142984724747568191373312) (n := 400) (l := [PE5]) ⟨P5, trivial⟩ (by kernel_rfl)
theorem P7 : AnsE pr PE7 :=
  runE (mask := 2140871539058939821587428954174242704574119936) (n := 400) (l := [PE5, PE6]) ⟨P5, P6, trivial⟩ (by kernel_rfl)
theorem P12 : AnsE pr PE12 :=
  runE (mask := 2140871539058939821587428954174242704574119936) (n := 400) (l := [PE5, PE6]) ⟨P5, P6, trivial⟩ (by kernel_rfl)
theorem P13 : AnsE pr PE13 :=
  runE (mask := 2140871539058939821587428954174242704574119936) (n := 400) (l := [PE5, PE6]) ⟨P5, P6, trivial⟩ (by kernel_rfl)
theorem P16 : AnsE pr PE16 :=
  runE (mask := 29014219670751100192948224) (n := 400) (l := [PE7, PE12, PE13]) ⟨P7, P12, P13, trivial⟩ (by kernel_rfl)
theorem P33 : AnsE pr PE33 :=
  runE (mask := 0) (n := 400) (l := []) trivial (by kernel_rfl)
theorem P38 : AnsE pr PE38 :=
  runE (mask := 0) (n := 400) (l := []) trivial (by kernel_rfl)
theorem P40 : AnsE pr PE40 :=
  runE (mask := 4503599627436032) (n := 400) (l := [PE33, PE38]) ⟨P33, P38, trivial⟩ (by kernel_rfl)
theorem P45 : AnsE pr PE45 :=
  runE (mask := 0) (n := 400) (l := []) trivial (by kernel_rfl)
theorem P48 : AnsE pr PE48 :=
  runE (mask := 0) (n := 400) (l := []) trivial (by kernel_rfl)
theorem P51 : AnsE pr PE51 :=
  runE (mask := 0) (n := 400) (l := []) trivial (by kernel_rfl)
theorem P55 : AnsE pr PE55 :=
  runE (mask := 0) (n := 400) (l := []) trivial (by kernel_rfl)
theorem P56 : AnsE pr PE56 :=
  runE (mask := 0) (n := 400) (l := []) trivial (by kernel_rfl)
theorem P66 : AnsE pr PE66 :=
  runE (mask := 0) (n := 400) (l := []) trivial (by kernel_rfl)
theorem P69 : AnsE pr PE69 :=
  runE (mask := 324518553658426726783156372897792) (n := 400) (l := [PE48, PE51, PE55, PE56, PE66]) ⟨P48, P51, P55, P56, P66, trivial⟩ (by kernel_rfl)
theorem P70 : AnsE pr PE70 :=
  runE (mask := 0) (n := 400) (l := []) trivial (by kernel_rfl)
theorem P72 : AnsE pr PE72 :=
  runE (mask := 324518553658426726783156087685632) (n := 400) (l := [PE66, PE69, PE70]) ⟨P66, P69, P70, trivial⟩ (by kernel_rfl)
theorem P75 : AnsE pr PE75 :=
  runE (mask := 0) (n := 400) (l := []) trivial (by kernel_rfl)
theorem P80 : AnsE pr PE80 :=
  runE (mask := 23384026197294447096907149396512383537513723068928) (n := 400) (l := [PE45, PE66, PE69, PE70, PE72, PE75]) ⟨P45, P66, P69, P70, P72, P75, trivial⟩ (by kernel_rfl)
theorem P82 : AnsE pr PE82 :=
  runE (mask := 405648192073035714321954239414272) (n := 400) (l := [PE66, PE75, PE80]) ⟨P66, P75, P80, trivial⟩ (by kernel_rfl)
theorem P89 : AnsE pr PE89 :=
  runE (mask := 18446744073709551616) (n := 400) (l := [PE45]) ⟨P45, trivial⟩ (by kernel_rfl)
theorem P96 : AnsE pr PE96 :=
  runE (mask := 0) (n := 400) (l := []) trivial (by kernel_rfl)
theorem P103 : AnsE pr PE103 :=
  runE (mask := 0) (n := 400) (l := []) trivial (by kernel_rfl)
theorem P109 : AnsE pr PE109 :=
  runE (mask := 2140871539058939821587428954174242704574119936) (n := 400) (l := [PE5, PE6]) ⟨P5, P6, trivial⟩ (by kernel_rfl)
theorem P111 : AnsE pr PE111 :=
  runE (mask := 29014219670751100192948224) (n := 400) (l := [PE12, PE109]) ⟨P12, P109, trivial⟩ (by kernel_rfl)
theorem P116 : AnsE pr PE116 :=
  runE (mask := 0) (n := 400) (l := []) trivial (by kernel_rfl)
theorem P117 : AnsE pr PE117 :=
  runE (mask := 0) (n := 400) (l := []) trivial (by kernel_rfl)
theorem P122 : AnsE pr PE122 :=
  runE (mask := 1307293695705032321393668128768) (n := 400) (l := [PE7, PE12, PE13, PE109, PE111, PE116, PE117]) ⟨P7, P12, P13, P109, P111, P116, P117, trivial⟩ (by kernel_rfl)
theorem P123 : AnsE pr PE123 :=
  runE (mask := 11150372599265311599782078807075280945938432) (n := 400) (l := [PE7, PE12, PE13, PE122]) ⟨P7, P12, P13, P122, trivial⟩ (by kernel_rfl)
theorem P131 : AnsE pr PE131 :=
  runE (mask := 19342813113834066795298816) (n := 400) (l := [PE12]) ⟨P12, trivial⟩ (by kernel_rfl)
theorem P132 : AnsE pr PE132 :=
  runE (mask := 34359738368) (n := 400) (l := [PE131]) ⟨P131, trivial⟩ (by kernel_rfl)
theorem P134 : AnsE pr PE134 :=
  runE (mask := 0) (n := 400) (l := []) trivial (by kernel_rfl)
theorem P136 : AnsE pr PE136 :=
  runE (mask := 19342813113834066795298816) (n := 400) (l := [PE12, PE134]) ⟨P12, P134, trivial⟩ (by kernel_rfl)
theorem P138 : AnsE pr PE138 :=
  runE (mask := 0) (n := 400) (l := []) trivial (by kernel_rfl)
theorem P139 : AnsE pr PE139 :=
  runE (mask := 2923003274661805837675049317659398054865922949120) (n := 400) (l := [PE7, PE12, PE13, PE116, PE117, PE136, PE138]) ⟨P7, P12, P13, P116, P117, P136, P138, trivial⟩ (by kernel_rfl)
theorem P141 : AnsE pr PE141 :=
  runE (mask := 1684996666696914987166689836735301825305910967867985244088162058240) (n := 400) (l := [PE7, PE12, PE13, PE38, PE123, PE132, PE139]) ⟨P7, P12, P13, P38, P123, P132, P139, trivial⟩ (by kernel_rfl)
theorem P144 : AnsE pr PE144 :=
  runE (mask := 29023664403716839483375616) (n := 400) (l := [PE7, PE12, PE13, PE141]) ⟨P7, P12, P13, P141, trivial⟩ (by kernel_rfl)
theorem P146 : AnsE pr PE146 :=
  runE (mask := 335544320) (n := 400) (l := [PE55, PE70]) ⟨P55, P70, trivial⟩ (by kernel_rfl)
theorem P149 : AnsE pr PE149 :=
  runE (mask := 1684996666696914987166699593311326182453535389744725024146693554176) (n := 400) (l := [PE7, PE12, PE13, PE122, PE132, PE139]) ⟨P7, P12, P13, P122, P132, P139, trivial⟩ (by kernel_rfl)
theorem P153 : AnsE pr PE153 :=
  runE (mask := 536870912) (n := 400) (l := [PE149]) ⟨P149, trivial⟩ (by kernel_rfl)
theorem P174 : AnsE pr PE174 :=
  runE (mask := 29014219670751100192948224) (n := 400) (l := [PE12, PE109]) ⟨P12, P109, trivial⟩ (by kernel_rfl)
theorem P186 : AnsE pr PE186 :=
  runE (mask := 0) (n := 400) (l := []) trivial (by kernel_rfl)
theorem P188 : AnsE pr PE188 :=
  runE (mask := 2923003274661805836407369665432566039311865085952) (n := 400) (l := [PE138]) ⟨P138, trivial⟩ (by kernel_rfl)
theorem P192 : AnsE pr PE192 :=
  runE (mask := 1393796574908163975360202067295222414442496) (n := 400) (l := [PE7, PE12, PE13, PE38, PE123]) ⟨P7, P12, P13, P38, P123, trivial⟩ (by kernel_rfl)
theorem P196 : AnsE pr PE196 :=
  runE (mask := 1684996666696914987166690010959873688826375246896113498053293375488) (n := 400) (l := [PE38, PE123, PE132, PE139, PE192]) ⟨P38, P123, P132, P139, P192, trivial⟩ (by kernel_rfl)
theorem P209 : AnsE pr PE209 :=
  runE (mask := 2140871539058939821606771767288076771369418752) (n := 400) (l := [PE5, PE6, PE12, PE13]) ⟨P5, P6, P12, P13, trivial⟩ (by kernel_rfl)
theorem P221 : AnsE pr PE221 :=
  runE (mask := 0) (n := 400) (l := []) trivial (by kernel_rfl)
theorem P225 : AnsE pr PE225 :=
  runE (mask := 0) (n := 400) (l := []) trivial (by kernel_rfl)
theorem P226 : AnsE pr PE226 :=
  runE (mask := 2140871539058939821587428954174242704574119936) (n := 400) (l := [PE5, PE6, PE225]) ⟨P5, P6, P225, trivial⟩ (by kernel_rfl)
theorem P227 : AnsE pr PE227 :=
  runE (mask := 2140871539058939821587428954174242704574119936) (n := 400) (l := [PE5, PE6]) ⟨P5, P6, trivial⟩ (by kernel_rfl)
theorem P235 : AnsE pr PE235 :=
  runE (mask := 0) (n := 400) (l := []) trivial (by kernel_rfl)
theorem P236 : AnsE pr PE236 :=
  runE (mask := 2140871539058939821587428954174242704574119936) (n := 400) (l := [PE5, PE6, PE225]) ⟨P5, P6, P225, trivial⟩ (by kernel_rfl)
theorem P240 : AnsE pr PE240 :=
  runE (mask := 1427247692705961188351981674481816530050875392) (n := 400) (l := [PE12, PE13, PE109, PE111, PE117, PE225, PE226, PE227, PE235, PE236]) ⟨P12, P13, P109, P111, P117, P225, P226, P227, P235, P236, trivial⟩ (by kernel_rfl)
theorem P243 : AnsE pr PE243 :=
  runE (mask := 11150372599265311599782078807075280945938432) (n := 400) (l := [PE12, PE13, PE226, PE227, PE236, PE240]) ⟨P12, P13, P226, P227, P236, P240, trivial⟩ (by kernel_rfl)
theorem P245 : AnsE pr PE245 :=
  runE (mask := 1393796574908163975360202067295222414442496) (n := 400) (l := [PE12, PE38, PE226, PE227, PE243]) ⟨P12, P38, P226, P227, P243, trivial⟩ (by kernel_rfl)
theorem P252 : AnsE pr PE252 :=
  runE (mask := 2923003274661805837675049317659398054865922949120) (n := 400) (l := [PE12, PE117, PE136, PE138, PE226, PE227, PE235]) ⟨P12, P117, P136, P138, P226, P227, P235, trivial⟩ (by kernel_rfl)
end Go.Proofs.YtpflgdmkpcpogaaGreatDoor
