/- Homomorphisms between the queries of the table, by closed runs. Written by program. -/
import Derived.Test.YtbhholaillniiaaGreatDoorPo
import Derived.KernelRfl
set_option linter.all false
set_option maxRecDepth 100000
set_option maxHeartbeats 4000000
namespace Go.Proofs.YtbhholaillniiaaGreatDoor
open Go Go.Vse Go.Vse.Sm
def ex1_0:zat (fun j=>Ans pr 22 [.ag (cqF (cqN 0)),.ag (cqF (cqN j)),zah (hdC true)] (.b (exI true 0 j))) (ixL true):=
 ⟨rQ,rQ,rQ,rQ,rQ,rQ,rQ,rQ,rQ,rQ,rQ,rQ,rQ,rQ,rQ,rQ,rQ,rQ,rQ,rQ,rQ,rQ,rQ,trivial⟩
def ex1_1:zat (fun j=>Ans pr 22 [.ag (cqF (cqN 1)),.ag (cqF (cqN j)),zah (hdC true)] (.b (exI true 1 j))) (ixL true):=
 ⟨rQ,rQ,rQ,rQ,rQ,rQ,rQ,rQ,rQ,rQ,rQ,rQ,rQ,rQ,rQ,rQ,rQ,rQ,rQ,rQ,rQ,rQ,rQ,trivial⟩
def ex1_2:zat (fun j=>Ans pr 22 [.ag (cqF (cqN 2)),.ag (cqF (cqN j)),zah (hdC true)] (.b (exI true 2 j))) (ixL true):=
 ⟨rQ,rQ,rQ,rQ,rQ,rQ,rQ,rQ,rQ,rQ,rQ,rQ,rQ,rQ,rQ,rQ,rQ,rQ,rQ,rQ,rQ,rQ,rQ,trivial⟩
def ex1_3:zat (fun j=>Ans pr 22 [.ag (cqF (cqN 3)),.ag (cqF (cqN j)),zah (hdC true)] (.b (exI true 3 j))) (ixL true):=
 ⟨rQ,rQ,rQ,rQ,rQ,rQ,rQ,rQ,rQ,rQ,rQ,rQ,rQ,rQ,rQ,rQ,rQ,rQ,rQ,rQ,rQ,rQ,rQ,trivial⟩
def ex1_4:zat (fun j=>Ans pr 22 [.ag (cqF (cqN 4)),.ag (cqF (cqN j)),zah (hdC true)] (.b (exI true 4 j))) (ixL true):=
 ⟨rQ,rQ,rQ,rQ,rQ,rQ,rQ,rQ,rQ,rQ,rQ,rQ,rQ,rQ,rQ,rQ,rQ,rQ,rQ,rQ,rQ,rQ,rQ,trivial⟩
def ex1_5:zat (fun j=>Ans pr 22 [.ag (cqF (cqN 5)),.ag (cqF (cqN j)),zah (hdC true)] (.b (exI true 5 j))) (ixL true):=
 ⟨rQ,rQ,rQ,rQ,rQ,rQ,rQ,rQ,rQ,rQ,rQ,rQ,rQ,rQ,rQ,rQ,rQ,rQ,rQ,rQ,rQ,rQ,rQ,trivial⟩
def ex1_6:zat (fun j=>Ans pr 22 [.ag (cqF (cqN 6)),.ag (cqF (cqN j)),zah (hdC true)] (.b (exI true 6 j))) (ixL true):=
 ⟨rQ,rQ,rQ,rQ,rQ,rQ,rQ,rQ,rQ,rQ,rQ,rQ,rQ,rQ,rQ,rQ,rQ,rQ,rQ,rQ,rQ,rQ,rQ,trivial⟩
def ex1_7:zat (fun j=>Ans pr 22 [.ag (cqF (cqN 7)),.ag (cqF (cqN j)),zah (hdC true)] (.b (exI true 7 j))) (ixL true):=
 ⟨rQ,rQ,rQ,rQ,rQ,rQ,rQ,rQ,rQ,rQ,rQ,rQ,rQ,rQ,rQ,rQ,rQ,rQ,rQ,rQ,rQ,rQ,rQ,trivial⟩
def ex1_8:zat (fun j=>Ans pr 22 [.ag (cqF (cqN 8)),.ag (cqF (cqN j)),zah (hdC true)] (.b (exI true 8 j))) (ixL true):=
 ⟨rQ,rQ,rQ,rQ,rQ,rQ,rQ,rQ,rQ,rQ,rQ,rQ,rQ,rQ,rQ,rQ,rQ,rQ,rQ,rQ,rQ,rQ,rQ,trivial⟩
def ex1_9:zat (fun j=>Ans pr 22 [.ag (cqF (cqN 9)),.ag (cqF (cqN j)),zah (hdC true)] (.b (exI true 9 j))) (ixL true):=
 ⟨rQ,rQ,rQ,rQ,rQ,rQ,rQ,rQ,rQ,rQ,rQ,rQ,rQ,rQ,rQ,rQ,rQ,rQ,rQ,rQ,rQ,rQ,rQ,trivial⟩
def zNT:zat (fun j=>Ans pr 22 [.ag (cqF (cqN 10)),.ag (cqF (cqN j)),zah (hdC true)] (.b (exI true 10 j))) (ixL true):=
 ⟨rQ,rQ,rQ,rQ,rQ,rQ,rQ,rQ,rQ,rQ,rQ,rQ,rQ,rQ,rQ,rQ,rQ,rQ,rQ,rQ,rQ,rQ,rQ,trivial⟩
def zNU:zat (fun j=>Ans pr 22 [.ag (cqF (cqN 11)),.ag (cqF (cqN j)),zah (hdC true)] (.b (exI true 11 j))) (ixL true):=
 ⟨rQ,rQ,rQ,rQ,rQ,rQ,rQ,rQ,rQ,rQ,rQ,rQ,rQ,rQ,rQ,rQ,rQ,rQ,rQ,rQ,rQ,rQ,rQ,trivial⟩
end Go.Proofs.YtbhholaillniiaaGreatDoor
