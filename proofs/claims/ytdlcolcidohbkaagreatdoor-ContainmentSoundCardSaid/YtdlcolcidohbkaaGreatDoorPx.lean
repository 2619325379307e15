/- Homomorphisms between the queries of the table, by closed runs. Written by program. -/
import Derived.Test.YtdlcolcidohbkaaGreatDoorPn
import Derived.KernelRfl
set_option linter.all false
set_option maxRecDepth 100000
set_option maxHeartbeats 4000000
namespace Go.Proofs.YtdlcolcidohbkaaGreatDoor
open Go Go.Vse Go.Vse.Sm
def zNi:EX 0 24:=eX
def zNk:EX 0 25:=eX
def zNl:EX 0 26:=eX
def zNm:EX 0 27:=eX
def zNn:EX 0 28:=eX
def zNp:EX 0 29:=eX
def zNq:EX 0 30:=eX
def zNr:EX 0 31:=eX
end Go.Proofs.YtdlcolcidohbkaaGreatDoor
