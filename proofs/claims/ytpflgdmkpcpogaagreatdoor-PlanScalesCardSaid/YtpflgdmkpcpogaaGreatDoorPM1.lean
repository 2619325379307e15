/- Closed runs. Written by program. -/
import Derived.Test.YtpflgdmkpcpogaaGreatDoorPE
import Derived.Test.YtpflgdmkpcpogaaGreatDoorPM0
import Derived.KernelRfl
set_option linter.all false
namespace Go.Proofs.YtpflgdmkpcpogaaGreatDoor
open Go.Vse
open Go (BinOp IntKind UnOp)
set_option maxRecDepth 100000
theorem P257 : AnsE pr PE257 :=
  runE (mask := 1684996666696914990090406909468032505808128379091922702555544633344) (n := 400) (l := [PE5, PE7, PE12, PE13, PE33, PE38, PE109, PE111, PE123, PE132, PE139, PE174, PE186, PE188, PE192, PE196, PE209, PE221, PE226, PE227, PE243, PE245, PE252]) ⟨P5, P7, P12, P13, P33, P38, P109, P111, P123, P132, P139, P174, P186, P188, P192, P196, P209, P221, P226, P227, P243, P245, P252, trivial⟩ (by kernel_rfl)
theorem P265 : AnsE pr PE265 :=
  runE (mask := 0) (n := 400) (l := []) trivial (by kernel_rfl)
theorem P272 : AnsE pr PE272 :=
  runE (mask := 0) (n := 400) (l := []) trivial (by kernel_rfl)
theorem P275 : AnsE pr PE275 :=
  runE (mask := 324518553658426726783156372897792) (n := 400) (l := [PE48, PE51, PE56, PE265, PE272]) ⟨P48, P51, P56, P265, P272, trivial⟩ (by kernel_rfl)
theorem P276 : AnsE pr PE276 :=
  runE (mask := 0) (n := 400) (l := []) trivial (by kernel_rfl)
theorem P277 : AnsE pr PE277 :=
  runE (mask := 0) (n := 400) (l := []) trivial (by kernel_rfl)
theorem P280 : AnsE pr PE280 :=
  runE (mask := 0) (n := 400) (l := []) trivial (by kernel_rfl)
theorem P282 : AnsE pr PE282 :=
  runE (mask := 324518553658426726783156087685632) (n := 400) (l := [PE275, PE276, PE277, PE280]) ⟨P275, P276, P277, P280, trivial⟩ (by kernel_rfl)
theorem P288 : AnsE pr PE288 :=
  runE (mask := 0) (n := 400) (l := []) trivial (by kernel_rfl)
theorem P291 : AnsE pr PE291 :=
  runE (mask := 0) (n := 400) (l := []) trivial (by kernel_rfl)
theorem P295 : AnsE pr PE295 :=
  runE (mask := 23384026197294447137471968603815724385408225640960) (n := 400) (l := [PE45, PE66, PE69, PE70, PE72, PE275, PE277, PE280, PE282, PE288, PE291]) ⟨P45, P66, P69, P70, P72, P275, P277, P280, P282, P288, P291, trivial⟩ (by kernel_rfl)
theorem P307 : AnsE pr PE307 :=
  runE (mask := 0) (n := 400) (l := []) trivial (by kernel_rfl)
theorem P308 : AnsE pr PE308 :=
  runE (mask := 0) (n := 400) (l := []) trivial (by kernel_rfl)
theorem P310 : AnsE pr PE310 :=
  runE (mask := 0) (n := 400) (l := []) trivial (by kernel_rfl)
theorem P333 : AnsE pr PE333 :=
  runE (mask := 0) (n := 400) (l := []) trivial (by kernel_rfl)
theorem P360 : AnsE pr PE360 :=
  runE (mask := 0) (n := 400) (l := []) trivial (by kernel_rfl)
theorem P364 : AnsE pr PE364 :=
  runE (mask := 0) (n := 400) (l := []) trivial (by kernel_rfl)
theorem P366 : AnsE pr PE366 :=
  runE (mask := 0) (n := 400) (l := []) trivial (by kernel_rfl)
theorem P369 : AnsE pr PE369 :=
  runE (mask := 1362547410939145142153589169147686683168) (n := 400) (l := [PE45, PE48, PE55, PE56, PE66, PE69, PE96, PE257, PE272, PE275, PE280, PE288, PE291, PE295, PE307, PE308, PE310, PE333, PE360, PE364, PE366]) ⟨P45, P48, P55, P56, P66, P69, P96, P257, P272, P275, P280, P288, P291, P295, P307, P308, P310, P333, P360, P364, P366, trivial⟩ (by kernel_rfl)
theorem P370 : AnsE pr PE370 :=
  runE (mask := 1361129832767126719583566060777599155760) (n := 400) (l := [PE16, PE40, PE66, PE69, PE82, PE89, PE96, PE103, PE144, PE146, PE153, PE369]) ⟨P16, P40, P66, P69, P82, P89, P96, P103, P144, P146, P153, P369, trivial⟩ (by kernel_rfl)
theorem P375 : AnsE pr PE375 :=
  runE (mask := 18446744073709551616) (n := 400) (l := [PE45]) ⟨P45, trivial⟩ (by kernel_rfl)
theorem P378 : AnsE pr PE378 :=
  runE (mask := 1361129832767126719583566060777599155248) (n := 400) (l := [PE16, PE40, PE66, PE82, PE96, PE103, PE144, PE146, PE153, PE369, PE375]) ⟨P16, P40, P66, P82, P96, P103, P144, P146, P153, P369, P375, trivial⟩ (by kernel_rfl)
theorem P381 : AnsE pr PE381 :=
  runE (mask := 29014219670751100192948224) (n := 400) (l := [PE12, PE226, PE227]) ⟨P12, P226, P227, trivial⟩ (by kernel_rfl)
theorem P383 : AnsE pr PE383 :=
  runE (mask := 0) (n := 400) (l := []) trivial (by kernel_rfl)
theorem P385 : AnsE pr PE385 :=
  runE (mask := 23384026197294447096907149396512383537513723068928) (n := 400) (l := [PE45, PE275, PE277, PE280, PE282, PE383]) ⟨P45, P275, P277, P280, P282, P383, trivial⟩ (by kernel_rfl)
theorem P387 : AnsE pr PE387 :=
  runE (mask := 405648192073035714321954239414272) (n := 400) (l := [PE280, PE383, PE385]) ⟨P280, P383, P385, trivial⟩ (by kernel_rfl)
theorem P393 : AnsE pr PE393 :=
  runE (mask := 1684996666696914987166689836735301825305910967867985244088162058240) (n := 400) (l := [PE12, PE38, PE132, PE226, PE227, PE243, PE252]) ⟨P12, P38, P132, P226, P227, P243, P252, trivial⟩ (by kernel_rfl)
theorem P396 : AnsE pr PE396 :=
  runE (mask := 29023664403716839483375616) (n := 400) (l := [PE12, PE226, PE227, PE393]) ⟨P12, P226, P227, P393, trivial⟩ (by kernel_rfl)
theorem P398 : AnsE pr PE398 :=
  runE (mask := 335544320) (n := 400) (l := [PE277, PE333]) ⟨P277, P333, trivial⟩ (by kernel_rfl)
theorem P401 : AnsE pr PE401 :=
  runE (mask := 1684996666696914987166699593311326182453535389744725024146693554176) (n := 400) (l := [PE12, PE13, PE132, PE226, PE227, PE236, PE240, PE252]) ⟨P12, P13, P132, P226, P227, P236, P240, P252, trivial⟩ (by kernel_rfl)
theorem P405 : AnsE pr PE405 :=
  runE (mask := 536870912) (n := 400) (l := [PE401]) ⟨P401, trivial⟩ (by kernel_rfl)
theorem P406 : AnsE pr PE406 :=
  runE (mask := 1361129832767126719583566060777599155760) (n := 400) (l := [PE40, PE89, PE96, PE103, PE275, PE280, PE369, PE381, PE387, PE396, PE398, PE405]) ⟨P40, P89, P96, P103, P275, P280, P369, P381, P387, P396, P398, P405, trivial⟩ (by kernel_rfl)
theorem P409 : AnsE pr PE409 :=
  runE (mask := 335544320) (n := 400) (l := [PE265, PE276]) ⟨P265, P276, trivial⟩ (by kernel_rfl)
theorem P410 : AnsE pr PE410 :=
  runE (mask := 1361129832767126719583566060777599155248) (n := 400) (l := [PE40, PE96, PE103, PE280, PE369, PE375, PE381, PE387, PE396, PE405, PE409]) ⟨P40, P96, P103, P280, P369, P375, P381, P387, P396, P405, P409, trivial⟩ (by kernel_rfl)
theorem P412 : AnsE pr PE412 :=
  runE (mask := 29014219670751100192948224) (n := 400) (l := [PE13, PE227, PE236]) ⟨P13, P227, P236, trivial⟩ (by kernel_rfl)
theorem P420 : AnsE pr PE420 :=
  runE (mask := 324518553658426726783156372897792) (n := 400) (l := [PE48, PE51, PE265, PE280]) ⟨P48, P51, P265, P280, trivial⟩ (by kernel_rfl)
theorem P423 : AnsE pr PE423 :=
  runE (mask := 0) (n := 400) (l := []) trivial (by kernel_rfl)
theorem P426 : AnsE pr PE426 :=
  runE (mask := 405648192073051855223018802381312) (n := 400) (l := [PE45, PE272, PE276, PE277, PE420, PE423]) ⟨P45, P272, P276, P277, P420, P423, trivial⟩ (by kernel_rfl)
theorem P428 : AnsE pr PE428 :=
  runE (mask := 405648192073035714321954239414272) (n := 400) (l := [PE272, PE423, PE426]) ⟨P272, P423, P426, trivial⟩ (by kernel_rfl)
theorem P434 : AnsE pr PE434 :=
  runE (mask := 0) (n := 400) (l := []) trivial (by kernel_rfl)
theorem P439 : AnsE pr PE439 :=
  runE (mask := 1307293695705032321393668128768) (n := 400) (l := [PE12, PE13, PE109, PE111, PE226, PE227, PE235, PE236, PE434]) ⟨P12, P13, P109, P111, P226, P227, P235, P236, P434, trivial⟩ (by kernel_rfl)
theorem P440 : AnsE pr PE440 :=
  runE (mask := 11150372599265311599782078807075280945938432) (n := 400) (l := [PE12, PE13, PE226, PE227, PE236, PE439]) ⟨P12, P13, P226, P227, P236, P439, trivial⟩ (by kernel_rfl)
theorem P443 : AnsE pr PE443 :=
  runE (mask := 2923003274661805837675049317659398054865922949120) (n := 400) (l := [PE13, PE136, PE186, PE227, PE235, PE236, PE434]) ⟨P13, P136, P186, P227, P235, P236, P434, trivial⟩ (by kernel_rfl)
theorem P445 : AnsE pr PE445 :=
  runE (mask := 1684996666696914987166689836735301825305910967867985244088162058240) (n := 400) (l := [PE13, PE38, PE132, PE227, PE236, PE440, PE443]) ⟨P13, P38, P132, P227, P236, P440, P443, trivial⟩ (by kernel_rfl)
theorem P448 : AnsE pr PE448 :=
  runE (mask := 29023664403716839483375616) (n := 400) (l := [PE13, PE227, PE236, PE445]) ⟨P13, P227, P236, P445, trivial⟩ (by kernel_rfl)
theorem P451 : AnsE pr PE451 :=
  runE (mask := 1684996666696914987166699593311326182453535389744725024146693554176) (n := 400) (l := [PE12, PE13, PE132, PE226, PE227, PE236, PE439, PE443]) ⟨P12, P13, P132, P226, P227, P236, P439, P443, trivial⟩ (by kernel_rfl)
theorem P455 : AnsE pr PE455 :=
  runE (mask := 536870912) (n := 400) (l := [PE451]) ⟨P451, trivial⟩ (by kernel_rfl)
theorem P456 : AnsE pr PE456 :=
  runE (mask := 1361129832767126719583566060777599155760) (n := 400) (l := [PE40, PE89, PE96, PE103, PE272, PE369, PE409, PE412, PE420, PE428, PE448, PE455]) ⟨P40, P89, P96, P103, P272, P369, P409, P412, P420, P428, P448, P455, trivial⟩ (by kernel_rfl)
theorem P458 : AnsE pr PE458 :=
  runE (mask := 1361129832767126719583566060777599155248) (n := 400) (l := [PE40, PE96, PE103, PE272, PE369, PE375, PE398, PE412, PE428, PE448, PE455]) ⟨P40, P96, P103, P272, P369, P375, P398, P412, P428, P448, P455, trivial⟩ (by kernel_rfl)
theorem P462 : AnsE pr PE462 :=
  runE (mask := 2140871539058939821587428954174242704574119936) (n := 400) (l := [PE5, PE6]) ⟨P5, P6, trivial⟩ (by kernel_rfl)
end Go.Proofs.YtpflgdmkpcpogaaGreatDoor
