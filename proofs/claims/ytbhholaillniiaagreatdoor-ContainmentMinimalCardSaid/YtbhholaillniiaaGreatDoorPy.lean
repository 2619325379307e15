/- Homomorphisms between the queries of the table, by closed runs. Written by program. -/
import Derived.Test.YtbhholaillniiaaGreatDoorPo
import Derived.KernelRfl
set_option linter.all false
set_option maxRecDepth 100000
set_option maxHeartbeats 4000000
namespace Go.Proofs.YtbhholaillniiaaGreatDoor
open Go Go.Vse Go.Vse.Sm
def zNz:zat (fun j=>Ans pr 22 [.ag (cqF (cqN 12)),.ag (cqF (cqN j)),zah (hdC false)] (.b (exI false 12 j))) (ixL false):=
 ⟨rQ,rQ,rQ,rQ,rQ,rQ,rQ,rQ,rQ,rQ,rQ,rQ,rQ,rQ,rQ,rQ,rQ,rQ,rQ,rQ,rQ,rQ,rQ,rQ,trivial⟩
def zNA:zat (fun j=>Ans pr 22 [.ag (cqF (cqN 13)),.ag (cqF (cqN j)),zah (hdC false)] (.b (exI false 13 j))) (ixL false):=
 ⟨rQ,rQ,rQ,rQ,rQ,rQ,rQ,rQ,rQ,rQ,rQ,rQ,rQ,rQ,rQ,rQ,rQ,rQ,rQ,rQ,rQ,rQ,rQ,rQ,trivial⟩
def zNB:zat (fun j=>Ans pr 22 [.ag (cqF (cqN 14)),.ag (cqF (cqN j)),zah (hdC false)] (.b (exI false 14 j))) (ixL false):=
 ⟨rQ,rQ,rQ,rQ,rQ,rQ,rQ,rQ,rQ,rQ,rQ,rQ,rQ,rQ,rQ,rQ,rQ,rQ,rQ,rQ,rQ,rQ,rQ,rQ,trivial⟩
def zNC:zat (fun j=>Ans pr 22 [.ag (cqF (cqN 15)),.ag (cqF (cqN j)),zah (hdC false)] (.b (exI false 15 j))) (ixL false):=
 ⟨rQ,rQ,rQ,rQ,rQ,rQ,rQ,rQ,rQ,rQ,rQ,rQ,rQ,rQ,rQ,rQ,rQ,rQ,rQ,rQ,rQ,rQ,rQ,rQ,trivial⟩
def zND:zat (fun j=>Ans pr 22 [.ag (cqF (cqN 16)),.ag (cqF (cqN j)),zah (hdC false)] (.b (exI false 16 j))) (ixL false):=
 ⟨rQ,rQ,rQ,rQ,rQ,rQ,rQ,rQ,rQ,rQ,rQ,rQ,rQ,rQ,rQ,rQ,rQ,rQ,rQ,rQ,rQ,rQ,rQ,rQ,trivial⟩
def zNF:zat (fun j=>Ans pr 22 [.ag (cqF (cqN 17)),.ag (cqF (cqN j)),zah (hdC false)] (.b (exI false 17 j))) (ixL false):=
 ⟨rQ,rQ,rQ,rQ,rQ,rQ,rQ,rQ,rQ,rQ,rQ,rQ,rQ,rQ,rQ,rQ,rQ,rQ,rQ,rQ,rQ,rQ,rQ,rQ,trivial⟩
def zNG:zat (fun j=>Ans pr 22 [.ag (cqF (cqN 18)),.ag (cqF (cqN j)),zah (hdC false)] (.b (exI false 18 j))) (ixL false):=
 ⟨rQ,rQ,rQ,rQ,rQ,rQ,rQ,rQ,rQ,rQ,rQ,rQ,rQ,rQ,rQ,rQ,rQ,rQ,rQ,rQ,rQ,rQ,rQ,rQ,trivial⟩
def zNK:zat (fun j=>Ans pr 22 [.ag (cqF (cqN 19)),.ag (cqF (cqN j)),zah (hdC false)] (.b (exI false 19 j))) (ixL false):=
 ⟨rQ,rQ,rQ,rQ,rQ,rQ,rQ,rQ,rQ,rQ,rQ,rQ,rQ,rQ,rQ,rQ,rQ,rQ,rQ,rQ,rQ,rQ,rQ,rQ,trivial⟩
def zNL:zat (fun j=>Ans pr 22 [.ag (cqF (cqN 20)),.ag (cqF (cqN j)),zah (hdC false)] (.b (exI false 20 j))) (ixL false):=
 ⟨rQ,rQ,rQ,rQ,rQ,rQ,rQ,rQ,rQ,rQ,rQ,rQ,rQ,rQ,rQ,rQ,rQ,rQ,rQ,rQ,rQ,rQ,rQ,rQ,trivial⟩
def zNQ:zat (fun j=>Ans pr 22 [.ag (cqF (cqN 21)),.ag (cqF (cqN j)),zah (hdC false)] (.b (exI false 21 j))) (ixL false):=
 ⟨rQ,rQ,rQ,rQ,rQ,rQ,rQ,rQ,rQ,rQ,rQ,rQ,rQ,rQ,rQ,rQ,rQ,rQ,rQ,rQ,rQ,rQ,rQ,rQ,trivial⟩
def zNR:zat (fun j=>Ans pr 22 [.ag (cqF (cqN 22)),.ag (cqF (cqN j)),zah (hdC false)] (.b (exI false 22 j))) (ixL false):=
 ⟨rQ,rQ,rQ,rQ,rQ,rQ,rQ,rQ,rQ,rQ,rQ,rQ,rQ,rQ,rQ,rQ,rQ,rQ,rQ,rQ,rQ,rQ,rQ,rQ,trivial⟩
def zNS:zat (fun j=>Ans pr 22 [.ag (cqF (cqN 23)),.ag (cqF (cqN j)),zah (hdC false)] (.b (exI false 23 j))) (ixL false):=
 ⟨rQ,rQ,rQ,rQ,rQ,rQ,rQ,rQ,rQ,rQ,rQ,rQ,rQ,rQ,rQ,rQ,rQ,rQ,rQ,rQ,rQ,rQ,rQ,rQ,trivial⟩
end Go.Proofs.YtbhholaillniiaaGreatDoor
