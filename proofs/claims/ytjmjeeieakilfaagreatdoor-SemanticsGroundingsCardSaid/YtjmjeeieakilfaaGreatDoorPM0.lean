/- Closed runs. Written by program. -/
import Derived.Test.YtjmjeeieakilfaaGreatDoorPE
import Derived.KernelRfl
set_option linter.all false
namespace Go.Proofs.YtjmjeeieakilfaaGreatDoor
open Go.Vse
open Go (BinOp IntKind UnOp)
set_option maxRecDepth 100000
theorem P7 : AnsE pr PE7 :=
  runE (mask := 0) (n := 400) (l := []) trivial (by kernel_rfl)
theorem P8 : AnsE pr PE8 :=
  runE (mask := 5575186299632655785383929568162090376495104) (n := 400) (l := [PE7]) ⟨P7, trivial⟩ (by kernel_rfl)
theorem P9 : AnsE pr PE9 :=
  runE (mask := 16725558898897967356151788704486271129485312) (n := 400) (l := [PE7, PE8]) ⟨P7, P8, trivial⟩ (by kernel_rfl)
theorem P14 : AnsE pr PE14 :=
  runE (mask := 16725558898897967356151788704486271129485312) (n := 400) (l := [PE7, PE8]) ⟨P7, P8, trivial⟩ (by kernel_rfl)
theorem P15 : AnsE pr PE15 :=
  runE (mask := 16725558898897967356151788704486271129485312) (n := 400) (l := [PE7, PE8]) ⟨P7, P8, trivial⟩ (by kernel_rfl)
theorem P18 : AnsE pr PE18 :=
  runE (mask := 7083549724304467820544) (n := 400) (l := [PE9, PE14, PE15]) ⟨P9, P14, P15, trivial⟩ (by kernel_rfl)
theorem P34 : AnsE pr PE34 :=
  runE (mask := 0) (n := 400) (l := []) trivial (by kernel_rfl)
theorem P37 : AnsE pr PE37 :=
  runE (mask := 0) (n := 400) (l := []) trivial (by kernel_rfl)
theorem P40 : AnsE pr PE40 :=
  runE (mask := 0) (n := 400) (l := []) trivial (by kernel_rfl)
theorem P44 : AnsE pr PE44 :=
  runE (mask := 0) (n := 400) (l := []) trivial (by kernel_rfl)
theorem P45 : AnsE pr PE45 :=
  runE (mask := 0) (n := 400) (l := []) trivial (by kernel_rfl)
theorem P55 : AnsE pr PE55 :=
  runE (mask := 0) (n := 400) (l := []) trivial (by kernel_rfl)
theorem P58 : AnsE pr PE58 :=
  runE (mask := 11417984263906614415975204388412435191562240000) (n := 400) (l := [PE37, PE40, PE44, PE45, PE55]) ⟨P37, P40, P44, P45, P55, trivial⟩ (by kernel_rfl)
theorem P59 : AnsE pr PE59 :=
  runE (mask := 0) (n := 400) (l := []) trivial (by kernel_rfl)
theorem P61 : AnsE pr PE61 :=
  runE (mask := 1511157274518303648251904) (n := 400) (l := [PE55, PE58, PE59]) ⟨P55, P58, P59, trivial⟩ (by kernel_rfl)
theorem P72 : AnsE pr PE72 :=
  runE (mask := 0) (n := 400) (l := []) trivial (by kernel_rfl)
theorem P77 : AnsE pr PE77 :=
  runE (mask := 0) (n := 400) (l := []) trivial (by kernel_rfl)
theorem P82 : AnsE pr PE82 :=
  runE (mask := 0) (n := 400) (l := []) trivial (by kernel_rfl)
theorem P87 : AnsE pr PE87 :=
  runE (mask := 0) (n := 400) (l := []) trivial (by kernel_rfl)
theorem P92 : AnsE pr PE92 :=
  runE (mask := 0) (n := 400) (l := []) trivial (by kernel_rfl)
theorem P97 : AnsE pr PE97 :=
  runE (mask := 0) (n := 400) (l := []) trivial (by kernel_rfl)
theorem P102 : AnsE pr PE102 :=
  runE (mask := 0) (n := 400) (l := []) trivial (by kernel_rfl)
theorem P107 : AnsE pr PE107 :=
  runE (mask := 0) (n := 400) (l := []) trivial (by kernel_rfl)
theorem P112 : AnsE pr PE112 :=
  runE (mask := 0) (n := 400) (l := []) trivial (by kernel_rfl)
theorem P117 : AnsE pr PE117 :=
  runE (mask := 0) (n := 400) (l := []) trivial (by kernel_rfl)
theorem P122 : AnsE pr PE122 :=
  runE (mask := 0) (n := 400) (l := []) trivial (by kernel_rfl)
theorem P127 : AnsE pr PE127 :=
  runE (mask := 0) (n := 400) (l := []) trivial (by kernel_rfl)
theorem P132 : AnsE pr PE132 :=
  runE (mask := 0) (n := 400) (l := []) trivial (by kernel_rfl)
theorem P147 : AnsE pr PE147 :=
  runE (mask := 0) (n := 400) (l := []) trivial (by kernel_rfl)
theorem P165 : AnsE pr PE165 :=
  runE (mask := 44601490397061246284828156876924248211324928) (n := 400) (l := [PE34, PE55, PE58, PE59, PE61, PE72, PE77, PE82, PE87, PE92, PE97, PE102, PE107, PE112, PE117, PE122, PE127, PE132, PE147]) ⟨P34, P55, P58, P59, P61, P72, P77, P82, P87, P92, P97, P102, P107, P112, P117, P122, P127, P132, P147, trivial⟩ (by kernel_rfl)
theorem P167 : AnsE pr PE167 :=
  runE (mask := 1360041547066457955762176) (n := 400) (l := [PE55, PE147, PE165]) ⟨P55, P147, P165, trivial⟩ (by kernel_rfl)
theorem P178 : AnsE pr PE178 :=
  runE (mask := 0) (n := 400) (l := []) trivial (by kernel_rfl)
theorem P196 : AnsE pr PE196 :=
  runE (mask := 18889465931753458761728) (n := 400) (l := [PE34, PE178]) ⟨P34, P178, trivial⟩ (by kernel_rfl)
theorem P200 : AnsE pr PE200 :=
  runE (mask := 0) (n := 400) (l := []) trivial (by kernel_rfl)
theorem P201 : AnsE pr PE201 :=
  runE (mask := 294205260800) (n := 400) (l := [PE59, PE167, PE196, PE200]) ⟨P59, P167, P196, P200, trivial⟩ (by kernel_rfl)
theorem P223 : AnsE pr PE223 :=
  runE (mask := 0) (n := 400) (l := []) trivial (by kernel_rfl)
theorem P240 : AnsE pr PE240 :=
  runE (mask := 16725558898897967356156511070969140774699008) (n := 400) (l := [PE7, PE8, PE14]) ⟨P7, P8, P14, trivial⟩ (by kernel_rfl)
theorem P249 : AnsE pr PE249 :=
  runE (mask := 33554432) (n := 400) (l := [PE240]) ⟨P240, trivial⟩ (by kernel_rfl)
theorem P256 : AnsE pr PE256 :=
  runE (mask := 0) (n := 400) (l := []) trivial (by kernel_rfl)
theorem P257 : AnsE pr PE257 :=
  runE (mask := 3369993333393829974333376885877453834204643052817571560137951281152) (n := 400) (l := [PE256]) ⟨P256, trivial⟩ (by kernel_rfl)
theorem P267 : AnsE pr PE267 :=
  runE (mask := 0) (n := 400) (l := []) trivial (by kernel_rfl)
theorem P268 : AnsE pr PE268 :=
  runE (mask := 0) (n := 400) (l := []) trivial (by kernel_rfl)
theorem P274 : AnsE pr PE274 :=
  runE (mask := 1580386026517947885182045371748763429156549024253214720) (n := 400) (l := [PE9, PE14, PE15, PE240, PE249, PE267, PE268]) ⟨P9, P14, P15, P240, P249, P267, P268, trivial⟩ (by kernel_rfl)
theorem P276 : AnsE pr PE276 :=
  runE (mask := 1809251394333065553493296640760748560207364279588067959510588596413427351552) (n := 400) (l := [PE9, PE14, PE15, PE223, PE274]) ⟨P9, P14, P15, P223, P274, trivial⟩ (by kernel_rfl)
theorem P283 : AnsE pr PE283 :=
  runE (mask := 4722366482869645213696) (n := 400) (l := [PE14]) ⟨P14, trivial⟩ (by kernel_rfl)
theorem P287 : AnsE pr PE287 :=
  runE (mask := 4722366482869645213696) (n := 400) (l := [PE14]) ⟨P14, trivial⟩ (by kernel_rfl)
theorem P289 : AnsE pr PE289 :=
  runE (mask := 14474011158034517761341735595960231256394560264436863874016938024553743908864) (n := 400) (l := [PE9, PE14, PE15, PE256, PE267, PE268, PE287]) ⟨P9, P14, P15, P256, P267, P268, P287, trivial⟩ (by kernel_rfl)
theorem P291 : AnsE pr PE291 :=
  runE (mask := 948570604283488609266456117178114671844545313683606443243107848486941791235342336) (n := 400) (l := [PE223, PE274, PE276, PE283, PE289]) ⟨P223, P274, P276, P283, P289, trivial⟩ (by kernel_rfl)
theorem P304 : AnsE pr PE304 :=
  runE (mask := 16725558898897967356156511070969140774699008) (n := 400) (l := [PE7, PE8, PE14, PE15]) ⟨P7, P8, P14, P15, trivial⟩ (by kernel_rfl)
theorem P312 : AnsE pr PE312 :=
  runE (mask := 5575186299632655785383929568162090410049536) (n := 400) (l := [PE7, PE304]) ⟨P7, P304, trivial⟩ (by kernel_rfl)
theorem P319 : AnsE pr PE319 :=
  runE (mask := 0) (n := 400) (l := []) trivial (by kernel_rfl)
theorem P320 : AnsE pr PE320 :=
  runE (mask := 16725558898897967356151788704486271129485312) (n := 400) (l := [PE7, PE8, PE319]) ⟨P7, P8, P319, trivial⟩ (by kernel_rfl)
theorem P321 : AnsE pr PE321 :=
  runE (mask := 16725558898897967356151788704486271129485312) (n := 400) (l := [PE7, PE8]) ⟨P7, P8, trivial⟩ (by kernel_rfl)
theorem P329 : AnsE pr PE329 :=
  runE (mask := 0) (n := 400) (l := []) trivial (by kernel_rfl)
theorem P331 : AnsE pr PE331 :=
  runE (mask := 16725558898897967356156511070969140774699008) (n := 400) (l := [PE7, PE8, PE15, PE319, PE321]) ⟨P7, P8, P15, P319, P321, trivial⟩ (by kernel_rfl)
theorem P337 : AnsE pr PE337 :=
  runE (mask := 1580386026529098257781310683319531288292873205006204928) (n := 400) (l := [PE14, PE240, PE249, PE268, PE319, PE320, PE321, PE329, PE331]) ⟨P14, P240, P249, P268, P319, P320, P321, P329, P331, trivial⟩ (by kernel_rfl)
theorem P339 : AnsE pr PE339 :=
  runE (mask := 1809251394333065553493296640760748560207364279588067959510588596413427351552) (n := 400) (l := [PE14, PE223, PE320, PE321, PE337]) ⟨P14, P223, P320, P321, P337, trivial⟩ (by kernel_rfl)
end Go.Proofs.YtjmjeeieakilfaaGreatDoor
