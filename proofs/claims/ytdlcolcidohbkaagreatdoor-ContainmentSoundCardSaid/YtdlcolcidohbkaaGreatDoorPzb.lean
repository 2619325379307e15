/- Homomorphisms between the queries of the table, by closed runs. Written by program. -/
import Derived.Test.YtdlcolcidohbkaaGreatDoorPn
import Derived.KernelRfl
set_option linter.all false
set_option maxRecDepth 100000
set_option maxHeartbeats 4000000
namespace Go.Proofs.YtdlcolcidohbkaaGreatDoor
open Go Go.Vse Go.Vse.Sm
def zNQ:EX 1 22:=eX
def zNR:EX 1 23:=eX
def zNS:EX 1 24:=eX
def zNT:EX 1 25:=eX
def zNU:EX 1 26:=eX
def zNV:EX 1 27:=eX
def zNW:EX 1 28:=eX
def zNX:EX 1 29:=eX
end Go.Proofs.YtdlcolcidohbkaaGreatDoor
