/- Homomorphisms between the queries of the table, by closed runs. Written by program. -/
import Derived.Test.YtdlcolcidohbkaaGreatDoorPn
import Derived.KernelRfl
set_option linter.all false
set_option maxRecDepth 100000
set_option maxHeartbeats 4000000
namespace Go.Proofs.YtdlcolcidohbkaaGreatDoor
open Go Go.Vse Go.Vse.Sm
def ex2_4:EX 2 4:=eX
def ex2_5:EX 2 5:=eX
def ex2_6:EX 2 6:=eX
def ex2_7:EX 2 7:=eX
def ex2_8:EX 2 8:=eX
def zOa:EX 2 12:=eX
def zOc:EX 2 13:=eX
def zOd:EX 2 14:=eX
end Go.Proofs.YtdlcolcidohbkaaGreatDoor
