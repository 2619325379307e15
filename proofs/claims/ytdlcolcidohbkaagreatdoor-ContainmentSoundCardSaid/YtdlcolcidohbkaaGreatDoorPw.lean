/- Homomorphisms between the queries of the table, by closed runs. Written by program. -/
import Derived.Test.YtdlcolcidohbkaaGreatDoorPn
import Derived.KernelRfl
set_option linter.all false
set_option maxRecDepth 100000
set_option maxHeartbeats 4000000
namespace Go.Proofs.YtdlcolcidohbkaaGreatDoor
open Go Go.Vse Go.Vse.Sm
def zM3:EX 0 16:=eX
def zM5:EX 0 17:=eX
def zM6:EX 0 18:=eX
def zM8:EX 0 19:=eX
def zNa:EX 0 20:=eX
def zNc:EX 0 21:=eX
def zNd:EX 0 22:=eX
def zNg:EX 0 23:=eX
end Go.Proofs.YtdlcolcidohbkaaGreatDoor
