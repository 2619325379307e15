/- Homomorphisms between the queries of the table, by closed runs. Written by program. -/
import Derived.Test.YthcehnaehljnfaaGreatDoorPj
import Derived.KernelRfl
set_option linter.all false
set_option maxRecDepth 100000
set_option maxHeartbeats 4000000
namespace Go.Proofs.YthcehnaehljnfaaGreatDoor
open Go Go.Vse Go.Vse.Sm
def z0B:zbz (fun t=>Ans pr 15 [.ag (cqF zlA),.ag (cqF t.1),zak []] (.b (mt (za0 t.2.2) zlA.as (e0H [])))) TB:=
 ⟨rQ,rQ,rQ,rQ,rQ,rQ,rQ,rQ,rQ,rQ,rQ,rQ,rQ,rQ,rQ,rQ,rQ,rQ,rQ,rQ,rQ,rQ,trivial⟩
def z0C:zbz (fun t=>Ans pr 15 [.ag (cqF zlB),.ag (cqF t.1),zak []] (.b (mt (za0 t.2.2) zlB.as (e0H [])))) TB:=
 ⟨rQ,rQ,rQ,rQ,rQ,rQ,rQ,rQ,rQ,rQ,rQ,rQ,rQ,rQ,rQ,rQ,rQ,rQ,rQ,rQ,rQ,rQ,trivial⟩
def z0D:zbz (fun t=>Ans pr 15 [.ag (cqF zlC),.ag (cqF t.1),zak []] (.b (mt (za0 t.2.2) zlC.as (e0H [])))) TB:=
 ⟨rQ,rQ,rQ,rQ,rQ,rQ,rQ,rQ,rQ,rQ,rQ,rQ,rQ,rQ,rQ,rQ,rQ,rQ,rQ,rQ,rQ,rQ,trivial⟩
def z0E:zbz (fun t=>Ans pr 15 [.ag (cqF zlD),.ag (cqF t.1),zak []] (.b (mt (za0 t.2.2) zlD.as (e0H [])))) TB:=
 ⟨rQ,rQ,rQ,rQ,rQ,rQ,rQ,rQ,rQ,rQ,rQ,rQ,rQ,rQ,rQ,rQ,rQ,rQ,rQ,rQ,rQ,rQ,trivial⟩
def z0F:zbz (fun t=>Ans pr 15 [.ag (cqF zlF),.ag (cqF t.1),zak []] (.b (mt (za0 t.2.2) zlF.as (e0H [])))) TB:=
 ⟨rQ,rQ,rQ,rQ,rQ,rQ,rQ,rQ,rQ,rQ,rQ,rQ,rQ,rQ,rQ,rQ,rQ,rQ,rQ,rQ,rQ,rQ,trivial⟩
def z0H:zbz (fun t=>Ans pr 15 [.ag (cqF zlG),.ag (cqF t.1),zak []] (.b (mt (za0 t.2.2) zlG.as (e0H [])))) TB:=
 ⟨rQ,rQ,rQ,rQ,rQ,rQ,rQ,rQ,rQ,rQ,rQ,rQ,rQ,rQ,rQ,rQ,rQ,rQ,rQ,rQ,rQ,rQ,trivial⟩
def z0K:zbz (fun t=>Ans pr 15 [.ag (cqF zlH),.ag (cqF t.1),zak []] (.b (mt (za0 t.2.2) zlH.as (e0H [])))) TB:=
 ⟨rQ,rQ,rQ,rQ,rQ,rQ,rQ,rQ,rQ,rQ,rQ,rQ,rQ,rQ,rQ,rQ,rQ,rQ,rQ,rQ,rQ,rQ,trivial⟩
def z0M:zbz (fun t=>Ans pr 15 [.ag (cqF zlI),.ag (cqF t.1),zak []] (.b (mt (za0 t.2.2) zlI.as (e0H [])))) TB:=
 ⟨rQ,rQ,rQ,rQ,rQ,rQ,rQ,rQ,rQ,rQ,rQ,rQ,rQ,rQ,rQ,rQ,rQ,rQ,rQ,rQ,rQ,rQ,trivial⟩
def z0S:zbz (fun t=>Ans pr 15 [.ag (cqF zlJ),.ag (cqF t.1),zak []] (.b (mt (za0 t.2.2) zlJ.as (e0H [])))) TB:=
 ⟨rQ,rQ,rQ,rQ,rQ,rQ,rQ,rQ,rQ,rQ,rQ,rQ,rQ,rQ,rQ,rQ,rQ,rQ,rQ,rQ,rQ,rQ,trivial⟩
def z0U:zbz (fun t=>Ans pr 15 [.ag (cqF zlK),.ag (cqF t.1),zak []] (.b (mt (za0 t.2.2) zlK.as (e0H [])))) TB:=
 ⟨rQ,rQ,rQ,rQ,rQ,rQ,rQ,rQ,rQ,rQ,rQ,rQ,rQ,rQ,rQ,rQ,rQ,rQ,rQ,rQ,rQ,rQ,trivial⟩
def z0W:zbz (fun t=>Ans pr 15 [.ag (cqF zlL),.ag (cqF t.1),zak []] (.b (mt (za0 t.2.2) zlL.as (e0H [])))) TB:=
 ⟨rQ,rQ,rQ,rQ,rQ,rQ,rQ,rQ,rQ,rQ,rQ,rQ,rQ,rQ,rQ,rQ,rQ,rQ,rQ,rQ,rQ,rQ,trivial⟩
end Go.Proofs.YthcehnaehljnfaaGreatDoor
