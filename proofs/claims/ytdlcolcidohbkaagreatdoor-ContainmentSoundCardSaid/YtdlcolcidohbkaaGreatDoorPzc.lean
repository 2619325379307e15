/- Homomorphisms between the queries of the table, by closed runs. Written by program. -/
import Derived.Test.YtdlcolcidohbkaaGreatDoorPn
import Derived.KernelRfl
set_option linter.all false
set_option maxRecDepth 100000
set_option maxHeartbeats 4000000
namespace Go.Proofs.YtdlcolcidohbkaaGreatDoor
open Go Go.Vse Go.Vse.Sm
def zN1:EX 1 30:=eX
def zN3:EX 1 31:=eX
def zN5:EX 1 32:=eX
def zN7:EX 1 33:=eX
def ex2_0:EX 2 0:=eX
def ex2_1:EX 2 1:=eX
def ex2_2:EX 2 2:=eX
def ex2_3:EX 2 3:=eX
end Go.Proofs.YtdlcolcidohbkaaGreatDoor
