/- Homomorphisms between the queries of the table, by closed runs. Written by program. -/
import Derived.Test.YtdlcolcidohbkaaGreatDoorPn
import Derived.KernelRfl
set_option linter.all false
set_option maxRecDepth 100000
set_option maxHeartbeats 4000000
namespace Go.Proofs.YtdlcolcidohbkaaGreatDoor
open Go Go.Vse Go.Vse.Sm
def zNA:EX 1 14:=eX
def zNB:EX 1 15:=eX
def zNC:EX 1 16:=eX
def zND:EX 1 17:=eX
def zNF:EX 1 18:=eX
def zNG:EX 1 19:=eX
def zNK:EX 1 20:=eX
def zNL:EX 1 21:=eX
end Go.Proofs.YtdlcolcidohbkaaGreatDoor
