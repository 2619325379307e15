/- Homomorphisms between the queries of the table, by closed runs. Written by program. -/
import Derived.Test.YtdlcolcidohbkaaGreatDoorPn
import Derived.KernelRfl
set_option linter.all false
set_option maxRecDepth 100000
set_option maxHeartbeats 4000000
namespace Go.Proofs.YtdlcolcidohbkaaGreatDoor
open Go Go.Vse Go.Vse.Sm
def ex0_8:EX 0 8:=eX
def ex0_9:EX 0 9:=eX
def zMT:EX 0 10:=eX
def zMV:EX 0 11:=eX
def zMW:EX 0 12:=eX
def zMZ:EX 0 13:=eX
def zM0:EX 0 14:=eX
def zM1:EX 0 15:=eX
end Go.Proofs.YtdlcolcidohbkaaGreatDoor
