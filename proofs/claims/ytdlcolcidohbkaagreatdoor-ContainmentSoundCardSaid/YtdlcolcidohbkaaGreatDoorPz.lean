/- Homomorphisms between the queries of the table, by closed runs. Written by program. -/
import Derived.Test.YtdlcolcidohbkaaGreatDoorPn
import Derived.KernelRfl
set_option linter.all false
set_option maxRecDepth 100000
set_option maxHeartbeats 4000000
namespace Go.Proofs.YtdlcolcidohbkaaGreatDoor
open Go Go.Vse Go.Vse.Sm
def ex1_6:EX 1 6:=eX
def ex1_7:EX 1 7:=eX
def ex1_8:EX 1 8:=eX
def ex1_9:EX 1 9:=eX
def zNv:EX 1 10:=eX
def zNw:EX 1 11:=eX
def zNx:EX 1 12:=eX
def zNz:EX 1 13:=eX
end Go.Proofs.YtdlcolcidohbkaaGreatDoor
