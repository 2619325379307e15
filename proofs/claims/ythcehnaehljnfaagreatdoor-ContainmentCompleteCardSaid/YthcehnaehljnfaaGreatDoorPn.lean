/- Homomorphisms between the queries of the table, by closed runs. Written by program. -/
import Derived.Test.YthcehnaehljnfaaGreatDoorPj
import Derived.KernelRfl
set_option linter.all false
set_option maxRecDepth 100000
set_option maxHeartbeats 4000000
namespace Go.Proofs.YthcehnaehljnfaaGreatDoor
open Go Go.Vse Go.Vse.Sm
def z0Z:zbz (fun t=>Ans pr 15 [.ag (cqF zlA),.ag (cqF t.1),zak [[120]]] (.b (mt (za0 t.2.2) zlA.as (e0H [[120]])))) TB:=
 ⟨rQ,rQ,rQ,rQ,rQ,rQ,rQ,rQ,rQ,rQ,rQ,rQ,rQ,rQ,rQ,rQ,rQ,rQ,rQ,rQ,rQ,rQ,trivial⟩
def z00:zbz (fun t=>Ans pr 15 [.ag (cqF zlB),.ag (cqF t.1),zak [[120]]] (.b (mt (za0 t.2.2) zlB.as (e0H [[120]])))) TB:=
 ⟨rQ,rQ,rQ,rQ,rQ,rQ,rQ,rQ,rQ,rQ,rQ,rQ,rQ,rQ,rQ,rQ,rQ,rQ,rQ,rQ,rQ,rQ,trivial⟩
def z02:zbz (fun t=>Ans pr 15 [.ag (cqF zlC),.ag (cqF t.1),zak [[120]]] (.b (mt (za0 t.2.2) zlC.as (e0H [[120]])))) TB:=
 ⟨rQ,rQ,rQ,rQ,rQ,rQ,rQ,rQ,rQ,rQ,rQ,rQ,rQ,rQ,rQ,rQ,rQ,rQ,rQ,rQ,rQ,rQ,trivial⟩
def z06:zbz (fun t=>Ans pr 15 [.ag (cqF zlD),.ag (cqF t.1),zak [[120]]] (.b (mt (za0 t.2.2) zlD.as (e0H [[120]])))) TB:=
 ⟨rQ,rQ,rQ,rQ,rQ,rQ,rQ,rQ,rQ,rQ,rQ,rQ,rQ,rQ,rQ,rQ,rQ,rQ,rQ,rQ,rQ,rQ,trivial⟩
def z07:zbz (fun t=>Ans pr 15 [.ag (cqF zlF),.ag (cqF t.1),zak [[120]]] (.b (mt (za0 t.2.2) zlF.as (e0H [[120]])))) TB:=
 ⟨rQ,rQ,rQ,rQ,rQ,rQ,rQ,rQ,rQ,rQ,rQ,rQ,rQ,rQ,rQ,rQ,rQ,rQ,rQ,rQ,rQ,rQ,trivial⟩
def z08:zbz (fun t=>Ans pr 15 [.ag (cqF zlG),.ag (cqF t.1),zak [[120]]] (.b (mt (za0 t.2.2) zlG.as (e0H [[120]])))) TB:=
 ⟨rQ,rQ,rQ,rQ,rQ,rQ,rQ,rQ,rQ,rQ,rQ,rQ,rQ,rQ,rQ,rQ,rQ,rQ,rQ,rQ,rQ,rQ,trivial⟩
def z1a:zbz (fun t=>Ans pr 15 [.ag (cqF zlH),.ag (cqF t.1),zak [[120]]] (.b (mt (za0 t.2.2) zlH.as (e0H [[120]])))) TB:=
 ⟨rQ,rQ,rQ,rQ,rQ,rQ,rQ,rQ,rQ,rQ,rQ,rQ,rQ,rQ,rQ,rQ,rQ,rQ,rQ,rQ,rQ,rQ,trivial⟩
def z1c:zbz (fun t=>Ans pr 15 [.ag (cqF zlI),.ag (cqF t.1),zak [[120]]] (.b (mt (za0 t.2.2) zlI.as (e0H [[120]])))) TB:=
 ⟨rQ,rQ,rQ,rQ,rQ,rQ,rQ,rQ,rQ,rQ,rQ,rQ,rQ,rQ,rQ,rQ,rQ,rQ,rQ,rQ,rQ,rQ,trivial⟩
def z1d:zbz (fun t=>Ans pr 15 [.ag (cqF zlJ),.ag (cqF t.1),zak [[120]]] (.b (mt (za0 t.2.2) zlJ.as (e0H [[120]])))) TB:=
 ⟨rQ,rQ,rQ,rQ,rQ,rQ,rQ,rQ,rQ,rQ,rQ,rQ,rQ,rQ,rQ,rQ,rQ,rQ,rQ,rQ,rQ,rQ,trivial⟩
def z1e:zbz (fun t=>Ans pr 15 [.ag (cqF zlK),.ag (cqF t.1),zak [[120]]] (.b (mt (za0 t.2.2) zlK.as (e0H [[120]])))) TB:=
 ⟨rQ,rQ,rQ,rQ,rQ,rQ,rQ,rQ,rQ,rQ,rQ,rQ,rQ,rQ,rQ,rQ,rQ,rQ,rQ,rQ,rQ,rQ,trivial⟩
def z1h:zbz (fun t=>Ans pr 15 [.ag (cqF zlL),.ag (cqF t.1),zak [[120]]] (.b (mt (za0 t.2.2) zlL.as (e0H [[120]])))) TB:=
 ⟨rQ,rQ,rQ,rQ,rQ,rQ,rQ,rQ,rQ,rQ,rQ,rQ,rQ,rQ,rQ,rQ,rQ,rQ,rQ,rQ,rQ,rQ,trivial⟩
end Go.Proofs.YthcehnaehljnfaaGreatDoor
