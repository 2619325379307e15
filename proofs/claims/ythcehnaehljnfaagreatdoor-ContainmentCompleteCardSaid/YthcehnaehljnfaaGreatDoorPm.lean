/- Homomorphisms between the queries of the table, by closed runs. Written by program. -/
import Derived.Test.YthcehnaehljnfaaGreatDoorPj
import Derived.KernelRfl
set_option linter.all false
set_option maxRecDepth 100000
set_option maxHeartbeats 4000000
namespace Go.Proofs.YthcehnaehljnfaaGreatDoor
open Go Go.Vse Go.Vse.Sm
def ex1_0:zbz (fun t=>Ans pr 15 [.ag (cqF cq0),.ag (cqF t.1),zak [[120]]] (.b (mt (za0 t.2.2) cq0.as (e0H [[120]])))) TB:=
 ⟨rQ,rQ,rQ,rQ,rQ,rQ,rQ,rQ,rQ,rQ,rQ,rQ,rQ,rQ,rQ,rQ,rQ,rQ,rQ,rQ,rQ,rQ,trivial⟩
def ex1_1:zbz (fun t=>Ans pr 15 [.ag (cqF cq1),.ag (cqF t.1),zak [[120]]] (.b (mt (za0 t.2.2) cq1.as (e0H [[120]])))) TB:=
 ⟨rQ,rQ,rQ,rQ,rQ,rQ,rQ,rQ,rQ,rQ,rQ,rQ,rQ,rQ,rQ,rQ,rQ,rQ,rQ,rQ,rQ,rQ,trivial⟩
def ex1_2:zbz (fun t=>Ans pr 15 [.ag (cqF cq2),.ag (cqF t.1),zak [[120]]] (.b (mt (za0 t.2.2) cq2.as (e0H [[120]])))) TB:=
 ⟨rQ,rQ,rQ,rQ,rQ,rQ,rQ,rQ,rQ,rQ,rQ,rQ,rQ,rQ,rQ,rQ,rQ,rQ,rQ,rQ,rQ,rQ,trivial⟩
def ex1_3:zbz (fun t=>Ans pr 15 [.ag (cqF cq3),.ag (cqF t.1),zak [[120]]] (.b (mt (za0 t.2.2) cq3.as (e0H [[120]])))) TB:=
 ⟨rQ,rQ,rQ,rQ,rQ,rQ,rQ,rQ,rQ,rQ,rQ,rQ,rQ,rQ,rQ,rQ,rQ,rQ,rQ,rQ,rQ,rQ,trivial⟩
def ex1_4:zbz (fun t=>Ans pr 15 [.ag (cqF cq4),.ag (cqF t.1),zak [[120]]] (.b (mt (za0 t.2.2) cq4.as (e0H [[120]])))) TB:=
 ⟨rQ,rQ,rQ,rQ,rQ,rQ,rQ,rQ,rQ,rQ,rQ,rQ,rQ,rQ,rQ,rQ,rQ,rQ,rQ,rQ,rQ,rQ,trivial⟩
def ex1_5:zbz (fun t=>Ans pr 15 [.ag (cqF cq5),.ag (cqF t.1),zak [[120]]] (.b (mt (za0 t.2.2) cq5.as (e0H [[120]])))) TB:=
 ⟨rQ,rQ,rQ,rQ,rQ,rQ,rQ,rQ,rQ,rQ,rQ,rQ,rQ,rQ,rQ,rQ,rQ,rQ,rQ,rQ,rQ,rQ,trivial⟩
def ex1_6:zbz (fun t=>Ans pr 15 [.ag (cqF cq6),.ag (cqF t.1),zak [[120]]] (.b (mt (za0 t.2.2) cq6.as (e0H [[120]])))) TB:=
 ⟨rQ,rQ,rQ,rQ,rQ,rQ,rQ,rQ,rQ,rQ,rQ,rQ,rQ,rQ,rQ,rQ,rQ,rQ,rQ,rQ,rQ,rQ,trivial⟩
def ex1_7:zbz (fun t=>Ans pr 15 [.ag (cqF cq7),.ag (cqF t.1),zak [[120]]] (.b (mt (za0 t.2.2) cq7.as (e0H [[120]])))) TB:=
 ⟨rQ,rQ,rQ,rQ,rQ,rQ,rQ,rQ,rQ,rQ,rQ,rQ,rQ,rQ,rQ,rQ,rQ,rQ,rQ,rQ,rQ,rQ,trivial⟩
def ex1_8:zbz (fun t=>Ans pr 15 [.ag (cqF cq8),.ag (cqF t.1),zak [[120]]] (.b (mt (za0 t.2.2) cq8.as (e0H [[120]])))) TB:=
 ⟨rQ,rQ,rQ,rQ,rQ,rQ,rQ,rQ,rQ,rQ,rQ,rQ,rQ,rQ,rQ,rQ,rQ,rQ,rQ,rQ,rQ,rQ,trivial⟩
def ex1_9:zbz (fun t=>Ans pr 15 [.ag (cqF cq9),.ag (cqF t.1),zak [[120]]] (.b (mt (za0 t.2.2) cq9.as (e0H [[120]])))) TB:=
 ⟨rQ,rQ,rQ,rQ,rQ,rQ,rQ,rQ,rQ,rQ,rQ,rQ,rQ,rQ,rQ,rQ,rQ,rQ,rQ,rQ,rQ,rQ,trivial⟩
def z0Y:zbz (fun t=>Ans pr 15 [.ag (cqF zlz),.ag (cqF t.1),zak [[120]]] (.b (mt (za0 t.2.2) zlz.as (e0H [[120]])))) TB:=
 ⟨rQ,rQ,rQ,rQ,rQ,rQ,rQ,rQ,rQ,rQ,rQ,rQ,rQ,rQ,rQ,rQ,rQ,rQ,rQ,rQ,rQ,rQ,trivial⟩
end Go.Proofs.YthcehnaehljnfaaGreatDoor
