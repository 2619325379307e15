/- Homomorphisms between the queries of the table, by closed runs. Written by program. -/
import Derived.Test.YtdlcolcidohbkaaGreatDoorPn
import Derived.KernelRfl
set_option linter.all false
set_option maxRecDepth 100000
set_option maxHeartbeats 4000000
namespace Go.Proofs.YtdlcolcidohbkaaGreatDoor
open Go Go.Vse Go.Vse.Sm
def zOi:EX 2 21:=eX
def zOo:EX 2 22:=eX
def zOp:EX 2 23:=eX
def zOq:EX 2 24:=eX
def zOr:EX 2 29:=eX
def zOs:EX 2 30:=eX
def zOu:EX 2 31:=eX
def zOw:EX 2 32:=eX
end Go.Proofs.YtdlcolcidohbkaaGreatDoor
