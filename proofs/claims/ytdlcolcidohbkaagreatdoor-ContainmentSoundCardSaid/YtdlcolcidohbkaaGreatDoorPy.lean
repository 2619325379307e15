/- Homomorphisms between the queries of the table, by closed runs. Written by program. -/
import Derived.Test.YtdlcolcidohbkaaGreatDoorPn
import Derived.KernelRfl
set_option linter.all false
set_option maxRecDepth 100000
set_option maxHeartbeats 4000000
namespace Go.Proofs.YtdlcolcidohbkaaGreatDoor
open Go Go.Vse Go.Vse.Sm
def zNs:EX 0 32:=eX
def zNu:EX 0 33:=eX
def ex1_0:EX 1 0:=eX
def ex1_1:EX 1 1:=eX
def ex1_2:EX 1 2:=eX
def ex1_3:EX 1 3:=eX
def ex1_4:EX 1 4:=eX
def ex1_5:EX 1 5:=eX
end Go.Proofs.YtdlcolcidohbkaaGreatDoor
