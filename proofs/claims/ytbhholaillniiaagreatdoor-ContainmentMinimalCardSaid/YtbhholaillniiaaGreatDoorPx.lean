/- Homomorphisms between the queries of the table, by closed runs. Written by program. -/
import Derived.Test.YtbhholaillniiaaGreatDoorPo
import Derived.KernelRfl
set_option linter.all false
set_option maxRecDepth 100000
set_option maxHeartbeats 4000000
namespace Go.Proofs.YtbhholaillniiaaGreatDoor
open Go Go.Vse Go.Vse.Sm
def ex0_0:zat (fun j=>Ans pr 22 [.ag (cqF (cqN 0)),.ag (cqF (cqN j)),zah (hdC false)] (.b (exI false 0 j))) (ixL false):=
 ⟨rQ,rQ,rQ,rQ,rQ,rQ,rQ,rQ,rQ,rQ,rQ,rQ,rQ,rQ,rQ,rQ,rQ,rQ,rQ,rQ,rQ,rQ,rQ,rQ,trivial⟩
def ex0_1:zat (fun j=>Ans pr 22 [.ag (cqF (cqN 1)),.ag (cqF (cqN j)),zah (hdC false)] (.b (exI false 1 j))) (ixL false):=
 ⟨rQ,rQ,rQ,rQ,rQ,rQ,rQ,rQ,rQ,rQ,rQ,rQ,rQ,rQ,rQ,rQ,rQ,rQ,rQ,rQ,rQ,rQ,rQ,rQ,trivial⟩
def ex0_2:zat (fun j=>Ans pr 22 [.ag (cqF (cqN 2)),.ag (cqF (cqN j)),zah (hdC false)] (.b (exI false 2 j))) (ixL false):=
 ⟨rQ,rQ,rQ,rQ,rQ,rQ,rQ,rQ,rQ,rQ,rQ,rQ,rQ,rQ,rQ,rQ,rQ,rQ,rQ,rQ,rQ,rQ,rQ,rQ,trivial⟩
def ex0_3:zat (fun j=>Ans pr 22 [.ag (cqF (cqN 3)),.ag (cqF (cqN j)),zah (hdC false)] (.b (exI false 3 j))) (ixL false):=
 ⟨rQ,rQ,rQ,rQ,rQ,rQ,rQ,rQ,rQ,rQ,rQ,rQ,rQ,rQ,rQ,rQ,rQ,rQ,rQ,rQ,rQ,rQ,rQ,rQ,trivial⟩
def ex0_4:zat (fun j=>Ans pr 22 [.ag (cqF (cqN 4)),.ag (cqF (cqN j)),zah (hdC false)] (.b (exI false 4 j))) (ixL false):=
 ⟨rQ,rQ,rQ,rQ,rQ,rQ,rQ,rQ,rQ,rQ,rQ,rQ,rQ,rQ,rQ,rQ,rQ,rQ,rQ,rQ,rQ,rQ,rQ,rQ,trivial⟩
def ex0_5:zat (fun j=>Ans pr 22 [.ag (cqF (cqN 5)),.ag (cqF (cqN j)),zah (hdC false)] (.b (exI false 5 j))) (ixL false):=
 ⟨rQ,rQ,rQ,rQ,rQ,rQ,rQ,rQ,rQ,rQ,rQ,rQ,rQ,rQ,rQ,rQ,rQ,rQ,rQ,rQ,rQ,rQ,rQ,rQ,trivial⟩
def ex0_6:zat (fun j=>Ans pr 22 [.ag (cqF (cqN 6)),.ag (cqF (cqN j)),zah (hdC false)] (.b (exI false 6 j))) (ixL false):=
 ⟨rQ,rQ,rQ,rQ,rQ,rQ,rQ,rQ,rQ,rQ,rQ,rQ,rQ,rQ,rQ,rQ,rQ,rQ,rQ,rQ,rQ,rQ,rQ,rQ,trivial⟩
def ex0_7:zat (fun j=>Ans pr 22 [.ag (cqF (cqN 7)),.ag (cqF (cqN j)),zah (hdC false)] (.b (exI false 7 j))) (ixL false):=
 ⟨rQ,rQ,rQ,rQ,rQ,rQ,rQ,rQ,rQ,rQ,rQ,rQ,rQ,rQ,rQ,rQ,rQ,rQ,rQ,rQ,rQ,rQ,rQ,rQ,trivial⟩
def ex0_8:zat (fun j=>Ans pr 22 [.ag (cqF (cqN 8)),.ag (cqF (cqN j)),zah (hdC false)] (.b (exI false 8 j))) (ixL false):=
 ⟨rQ,rQ,rQ,rQ,rQ,rQ,rQ,rQ,rQ,rQ,rQ,rQ,rQ,rQ,rQ,rQ,rQ,rQ,rQ,rQ,rQ,rQ,rQ,rQ,trivial⟩
def ex0_9:zat (fun j=>Ans pr 22 [.ag (cqF (cqN 9)),.ag (cqF (cqN j)),zah (hdC false)] (.b (exI false 9 j))) (ixL false):=
 ⟨rQ,rQ,rQ,rQ,rQ,rQ,rQ,rQ,rQ,rQ,rQ,rQ,rQ,rQ,rQ,rQ,rQ,rQ,rQ,rQ,rQ,rQ,rQ,rQ,trivial⟩
def zNw:zat (fun j=>Ans pr 22 [.ag (cqF (cqN 10)),.ag (cqF (cqN j)),zah (hdC false)] (.b (exI false 10 j))) (ixL false):=
 ⟨rQ,rQ,rQ,rQ,rQ,rQ,rQ,rQ,rQ,rQ,rQ,rQ,rQ,rQ,rQ,rQ,rQ,rQ,rQ,rQ,rQ,rQ,rQ,rQ,trivial⟩
def zNx:zat (fun j=>Ans pr 22 [.ag (cqF (cqN 11)),.ag (cqF (cqN j)),zah (hdC false)] (.b (exI false 11 j))) (ixL false):=
 ⟨rQ,rQ,rQ,rQ,rQ,rQ,rQ,rQ,rQ,rQ,rQ,rQ,rQ,rQ,rQ,rQ,rQ,rQ,rQ,rQ,rQ,rQ,rQ,rQ,trivial⟩
end Go.Proofs.YtbhholaillniiaaGreatDoor
