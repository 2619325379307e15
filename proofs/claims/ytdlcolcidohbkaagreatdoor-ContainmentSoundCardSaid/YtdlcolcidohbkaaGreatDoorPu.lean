/- Homomorphisms between the queries of the table, by closed runs. Written by program. -/
import Derived.Test.YtdlcolcidohbkaaGreatDoorPn
import Derived.KernelRfl
set_option linter.all false
set_option maxRecDepth 100000
set_option maxHeartbeats 4000000
namespace Go.Proofs.YtdlcolcidohbkaaGreatDoor
open Go Go.Vse Go.Vse.Sm
def ex0_0:EX 0 0:=eX
def ex0_1:EX 0 1:=eX
def ex0_2:EX 0 2:=eX
def ex0_3:EX 0 3:=eX
def ex0_4:EX 0 4:=eX
def ex0_5:EX 0 5:=eX
def ex0_6:EX 0 6:=eX
def ex0_7:EX 0 7:=eX
end Go.Proofs.YtdlcolcidohbkaaGreatDoor
