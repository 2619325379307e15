/- Homomorphisms between the queries of the table, by closed runs. Written by program. -/
import Derived.Test.YtbhholaillniiaaGreatDoorPo
import Derived.KernelRfl
set_option linter.all false
set_option maxRecDepth 100000
set_option maxHeartbeats 4000000
namespace Go.Proofs.YtbhholaillniiaaGreatDoor
open Go Go.Vse Go.Vse.Sm
def zNV:zat (fun j=>Ans pr 22 [.ag (cqF (cqN 12)),.ag (cqF (cqN j)),zah (hdC true)] (.b (exI true 12 j))) (ixL true):=
 ⟨rQ,rQ,rQ,rQ,rQ,rQ,rQ,rQ,rQ,rQ,rQ,rQ,rQ,rQ,rQ,rQ,rQ,rQ,rQ,rQ,rQ,rQ,rQ,trivial⟩
def zNW:zat (fun j=>Ans pr 22 [.ag (cqF (cqN 13)),.ag (cqF (cqN j)),zah (hdC true)] (.b (exI true 13 j))) (ixL true):=
 ⟨rQ,rQ,rQ,rQ,rQ,rQ,rQ,rQ,rQ,rQ,rQ,rQ,rQ,rQ,rQ,rQ,rQ,rQ,rQ,rQ,rQ,rQ,rQ,trivial⟩
def zNX:zat (fun j=>Ans pr 22 [.ag (cqF (cqN 14)),.ag (cqF (cqN j)),zah (hdC true)] (.b (exI true 14 j))) (ixL true):=
 ⟨rQ,rQ,rQ,rQ,rQ,rQ,rQ,rQ,rQ,rQ,rQ,rQ,rQ,rQ,rQ,rQ,rQ,rQ,rQ,rQ,rQ,rQ,rQ,trivial⟩
def zN1:zat (fun j=>Ans pr 22 [.ag (cqF (cqN 15)),.ag (cqF (cqN j)),zah (hdC true)] (.b (exI true 15 j))) (ixL true):=
 ⟨rQ,rQ,rQ,rQ,rQ,rQ,rQ,rQ,rQ,rQ,rQ,rQ,rQ,rQ,rQ,rQ,rQ,rQ,rQ,rQ,rQ,rQ,rQ,trivial⟩
def zN3:zat (fun j=>Ans pr 22 [.ag (cqF (cqN 16)),.ag (cqF (cqN j)),zah (hdC true)] (.b (exI true 16 j))) (ixL true):=
 ⟨rQ,rQ,rQ,rQ,rQ,rQ,rQ,rQ,rQ,rQ,rQ,rQ,rQ,rQ,rQ,rQ,rQ,rQ,rQ,rQ,rQ,rQ,rQ,trivial⟩
def zN5:zat (fun j=>Ans pr 22 [.ag (cqF (cqN 17)),.ag (cqF (cqN j)),zah (hdC true)] (.b (exI true 17 j))) (ixL true):=
 ⟨rQ,rQ,rQ,rQ,rQ,rQ,rQ,rQ,rQ,rQ,rQ,rQ,rQ,rQ,rQ,rQ,rQ,rQ,rQ,rQ,rQ,rQ,rQ,trivial⟩
def zN7:zat (fun j=>Ans pr 22 [.ag (cqF (cqN 18)),.ag (cqF (cqN j)),zah (hdC true)] (.b (exI true 18 j))) (ixL true):=
 ⟨rQ,rQ,rQ,rQ,rQ,rQ,rQ,rQ,rQ,rQ,rQ,rQ,rQ,rQ,rQ,rQ,rQ,rQ,rQ,rQ,rQ,rQ,rQ,trivial⟩
def zOa:zat (fun j=>Ans pr 22 [.ag (cqF (cqN 19)),.ag (cqF (cqN j)),zah (hdC true)] (.b (exI true 19 j))) (ixL true):=
 ⟨rQ,rQ,rQ,rQ,rQ,rQ,rQ,rQ,rQ,rQ,rQ,rQ,rQ,rQ,rQ,rQ,rQ,rQ,rQ,rQ,rQ,rQ,rQ,trivial⟩
def zOc:zat (fun j=>Ans pr 22 [.ag (cqF (cqN 20)),.ag (cqF (cqN j)),zah (hdC true)] (.b (exI true 20 j))) (ixL true):=
 ⟨rQ,rQ,rQ,rQ,rQ,rQ,rQ,rQ,rQ,rQ,rQ,rQ,rQ,rQ,rQ,rQ,rQ,rQ,rQ,rQ,rQ,rQ,rQ,trivial⟩
def zOd:zat (fun j=>Ans pr 22 [.ag (cqF (cqN 21)),.ag (cqF (cqN j)),zah (hdC true)] (.b (exI true 21 j))) (ixL true):=
 ⟨rQ,rQ,rQ,rQ,rQ,rQ,rQ,rQ,rQ,rQ,rQ,rQ,rQ,rQ,rQ,rQ,rQ,rQ,rQ,rQ,rQ,rQ,rQ,trivial⟩
def zOi:zat (fun j=>Ans pr 22 [.ag (cqF (cqN 22)),.ag (cqF (cqN j)),zah (hdC true)] (.b (exI true 22 j))) (ixL true):=
 ⟨rQ,rQ,rQ,rQ,rQ,rQ,rQ,rQ,rQ,rQ,rQ,rQ,rQ,rQ,rQ,rQ,rQ,rQ,rQ,rQ,rQ,rQ,rQ,trivial⟩
end Go.Proofs.YtbhholaillniiaaGreatDoor
