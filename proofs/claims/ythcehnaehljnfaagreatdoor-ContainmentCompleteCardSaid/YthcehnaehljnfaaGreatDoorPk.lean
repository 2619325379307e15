/- Homomorphisms between the queries of the table, by closed runs. Written by program. -/
import Derived.Test.YthcehnaehljnfaaGreatDoorPj
import Derived.KernelRfl
set_option linter.all false
set_option maxRecDepth 100000
set_option maxHeartbeats 4000000
namespace Go.Proofs.YthcehnaehljnfaaGreatDoor
open Go Go.Vse Go.Vse.Sm
def ex0_0:zbz (fun t=>Ans pr 15 [.ag (cqF cq0),.ag (cqF t.1),zak []] (.b (mt (za0 t.2.2) cq0.as (e0H [])))) TB:=
 ⟨rQ,rQ,rQ,rQ,rQ,rQ,rQ,rQ,rQ,rQ,rQ,rQ,rQ,rQ,rQ,rQ,rQ,rQ,rQ,rQ,rQ,rQ,trivial⟩
def ex0_1:zbz (fun t=>Ans pr 15 [.ag (cqF cq1),.ag (cqF t.1),zak []] (.b (mt (za0 t.2.2) cq1.as (e0H [])))) TB:=
 ⟨rQ,rQ,rQ,rQ,rQ,rQ,rQ,rQ,rQ,rQ,rQ,rQ,rQ,rQ,rQ,rQ,rQ,rQ,rQ,rQ,rQ,rQ,trivial⟩
def ex0_2:zbz (fun t=>Ans pr 15 [.ag (cqF cq2),.ag (cqF t.1),zak []] (.b (mt (za0 t.2.2) cq2.as (e0H [])))) TB:=
 ⟨rQ,rQ,rQ,rQ,rQ,rQ,rQ,rQ,rQ,rQ,rQ,rQ,rQ,rQ,rQ,rQ,rQ,rQ,rQ,rQ,rQ,rQ,trivial⟩
def ex0_3:zbz (fun t=>Ans pr 15 [.ag (cqF cq3),.ag (cqF t.1),zak []] (.b (mt (za0 t.2.2) cq3.as (e0H [])))) TB:=
 ⟨rQ,rQ,rQ,rQ,rQ,rQ,rQ,rQ,rQ,rQ,rQ,rQ,rQ,rQ,rQ,rQ,rQ,rQ,rQ,rQ,rQ,rQ,trivial⟩
def ex0_4:zbz (fun t=>Ans pr 15 [.ag (cqF cq4),.ag (cqF t.1),zak []] (.b (mt (za0 t.2.2) cq4.as (e0H [])))) TB:=
 ⟨rQ,rQ,rQ,rQ,rQ,rQ,rQ,rQ,rQ,rQ,rQ,rQ,rQ,rQ,rQ,rQ,rQ,rQ,rQ,rQ,rQ,rQ,trivial⟩
def ex0_5:zbz (fun t=>Ans pr 15 [.ag (cqF cq5),.ag (cqF t.1),zak []] (.b (mt (za0 t.2.2) cq5.as (e0H [])))) TB:=
 ⟨rQ,rQ,rQ,rQ,rQ,rQ,rQ,rQ,rQ,rQ,rQ,rQ,rQ,rQ,rQ,rQ,rQ,rQ,rQ,rQ,rQ,rQ,trivial⟩
def ex0_6:zbz (fun t=>Ans pr 15 [.ag (cqF cq6),.ag (cqF t.1),zak []] (.b (mt (za0 t.2.2) cq6.as (e0H [])))) TB:=
 ⟨rQ,rQ,rQ,rQ,rQ,rQ,rQ,rQ,rQ,rQ,rQ,rQ,rQ,rQ,rQ,rQ,rQ,rQ,rQ,rQ,rQ,rQ,trivial⟩
def ex0_7:zbz (fun t=>Ans pr 15 [.ag (cqF cq7),.ag (cqF t.1),zak []] (.b (mt (za0 t.2.2) cq7.as (e0H [])))) TB:=
 ⟨rQ,rQ,rQ,rQ,rQ,rQ,rQ,rQ,rQ,rQ,rQ,rQ,rQ,rQ,rQ,rQ,rQ,rQ,rQ,rQ,rQ,rQ,trivial⟩
def ex0_8:zbz (fun t=>Ans pr 15 [.ag (cqF cq8),.ag (cqF t.1),zak []] (.b (mt (za0 t.2.2) cq8.as (e0H [])))) TB:=
 ⟨rQ,rQ,rQ,rQ,rQ,rQ,rQ,rQ,rQ,rQ,rQ,rQ,rQ,rQ,rQ,rQ,rQ,rQ,rQ,rQ,rQ,rQ,trivial⟩
def ex0_9:zbz (fun t=>Ans pr 15 [.ag (cqF cq9),.ag (cqF t.1),zak []] (.b (mt (za0 t.2.2) cq9.as (e0H [])))) TB:=
 ⟨rQ,rQ,rQ,rQ,rQ,rQ,rQ,rQ,rQ,rQ,rQ,rQ,rQ,rQ,rQ,rQ,rQ,rQ,rQ,rQ,rQ,rQ,trivial⟩
def z0A:zbz (fun t=>Ans pr 15 [.ag (cqF zlz),.ag (cqF t.1),zak []] (.b (mt (za0 t.2.2) zlz.as (e0H [])))) TB:=
 ⟨rQ,rQ,rQ,rQ,rQ,rQ,rQ,rQ,rQ,rQ,rQ,rQ,rQ,rQ,rQ,rQ,rQ,rQ,rQ,rQ,rQ,rQ,trivial⟩
end Go.Proofs.YthcehnaehljnfaaGreatDoor
