/- The conjunctive queries of the builders, their cores: what is answered of them (closed runs). Written by program. -/
import Derived.Test.YtbhholaillniiaaGreatDoorPk
import Derived.Test.YtbhholaillniiaaGreatDoorPa
import Derived.KernelRfl
import Derived.Test.YtbhholaillniiaaGreatDoorPl
set_option linter.all false
set_option maxRecDepth 100000
set_option maxHeartbeats 4000000
namespace Go.Proofs.YtbhholaillniiaaGreatDoor
open Go Go.Vse Go.Vse.Sm
structure Bun(t:Tr):Prop where
 vr:Ans pr 75 [.ag (cqF t.1)] (zah t.2)
 bd:∀a∈t.1.as,∃l,l.length<=3/\Ans pr 75 [.ag [.sl 3 [atF a],.nils]] (zah l)/\∀s,Trm.var s∈a.ts->s∈l
 c0:Ans pr 80 [.sl 1 [[.nils],[zah t.2]]] (zah t.2)
 c1:[120]∈t.2->Ans pr 80 [.sl 1 [[.sl 1 [[.s [120]]]],[zah t.2]]] (zah ([120]::t.2))
 eq:Ans pr 24 [.ag (cqF t.1),.ag (cqF t.1)] (.b true)
 cm:Ans pr 53 [.ag (cqF t.1),.ag (cqF t.1)] (.i .i64 0)
def bn0:Bun (cq0,[[120],[121]]):=⟨rA,allL (l:=cq0.as) ⟨⟨[[120],[121]],by decide,rA,by simp⟩,trivial⟩,rA,fun _=>rA,rA,rA⟩
def bn1:Bun (cq1,[[120],[121]]):=⟨rA,allL (l:=cq1.as) ⟨⟨[[120],[121]],by decide,rA,by simp⟩,⟨[[121]],by decide,rA,by simp⟩,trivial⟩,rA,fun _=>rA,rA,rA⟩
def bn2:Bun (cq2,[[120],[121]]):=⟨rA,allL (l:=cq2.as) ⟨⟨[[120],[121]],by decide,rA,by simp⟩,⟨[[120]],by decide,rA,by simp⟩,trivial⟩,rA,fun _=>rA,rA,rA⟩
def bn3:Bun (cq3,[[120],[121],[122]]):=⟨rA,allL (l:=cq3.as) ⟨⟨[[120],[121]],by decide,rA,by simp⟩,⟨[[121],[122]],by decide,rA,by simp⟩,trivial⟩,rA,fun _=>rA,rA,rA⟩
def bn4:Bun (cq4,[[120],[121]]):=⟨rA,allL (l:=cq4.as) ⟨⟨[[120],[121]],by decide,rA,by simp⟩,⟨[[121]],by decide,rA,by simp⟩,trivial⟩,rA,fun _=>rA,rA,rA⟩
def bn5:Bun (cq5,[[120],[121],[122]]):=⟨rA,allL (l:=cq5.as) ⟨⟨[[120],[121]],by decide,rA,by simp⟩,⟨[[121],[122]],by decide,rA,by simp⟩,trivial⟩,rA,fun _=>rA,rA,rA⟩
def bn6:Bun (cq6,[[120],[121]]):=⟨rA,allL (l:=cq6.as) ⟨⟨[[120],[121]],by decide,rA,by simp⟩,⟨[[121],[120]],by decide,rA,by simp⟩,trivial⟩,rA,fun _=>rA,rA,rA⟩
def bn7:Bun (cq7,[[120],[121],[122]]):=⟨rA,allL (l:=cq7.as) ⟨⟨[[120],[121]],by decide,rA,by simp⟩,⟨[[121],[122]],by decide,rA,by simp⟩,trivial⟩,rA,fun _=>rA,rA,rA⟩
def bn8:Bun (cq8,[[120],[121]]):=⟨rA,allL (l:=cq8.as) ⟨⟨[[120],[121]],by decide,rA,by simp⟩,⟨[[120]],by decide,rA,by simp⟩,⟨[[121]],by decide,rA,by simp⟩,trivial⟩,rA,fun _=>rA,rA,rA⟩
def bn9:Bun (cq9,[[120],[121],[122]]):=⟨rA,allL (l:=cq9.as) ⟨⟨[[120],[121]],by decide,rA,by simp⟩,⟨[[122],[121]],by decide,rA,by simp⟩,trivial⟩,rA,fun _=>rA,rA,rA⟩
def bn10:Bun (ztM,[[120]]):=⟨rA,allL (l:=ztM.as) ⟨⟨[[120]],by decide,rA,by simp⟩,trivial⟩,rA,fun _=>rA,rA,rA⟩
def bn11:Bun (ztN,[[120]]):=⟨rA,allL (l:=ztN.as) ⟨⟨[[120]],by decide,rA,by simp⟩,trivial⟩,rA,fun _=>rA,rA,rA⟩
def bn12:Bun (ztO,[[120]]):=⟨rA,allL (l:=ztO.as) ⟨⟨[[120]],by decide,rA,by simp⟩,trivial⟩,rA,fun _=>rA,rA,rA⟩
def bn13:Bun (ztP,[[120]]):=⟨rA,allL (l:=ztP.as) ⟨⟨[[120]],by decide,rA,by simp⟩,⟨[[120]],by decide,rA,by simp⟩,trivial⟩,rA,fun _=>rA,rA,rA⟩
def bn14:Bun (ztT,[[120]]):=⟨rA,allL (l:=ztT.as) ⟨⟨[[120]],by decide,rA,by simp⟩,⟨[[120]],by decide,rA,by simp⟩,trivial⟩,rA,fun _=>rA,rA,rA⟩
def bn15:Bun (ztU,[[120]]):=⟨rA,allL (l:=ztU.as) ⟨⟨[[120]],by decide,rA,by simp⟩,⟨[[120]],by decide,rA,by simp⟩,trivial⟩,rA,fun _=>rA,rA,rA⟩
def bn16:Bun (ztV,[[120]]):=⟨rA,allL (l:=ztV.as) ⟨⟨[[120]],by decide,rA,by simp⟩,trivial⟩,rA,fun _=>rA,rA,rA⟩
def bn17:Bun (ztY,[[120],[121],[122]]):=⟨rA,allL (l:=ztY.as) ⟨⟨[[120],[121]],by decide,rA,by simp⟩,⟨[[121],[122]],by decide,rA,by simp⟩,⟨[[122]],by decide,rA,by simp⟩,trivial⟩,rA,fun _=>rA,rA,rA⟩
def bn18:Bun (zt3,[[120],[121],[122]]):=⟨rA,allL (l:=zt3.as) ⟨⟨[[120],[121]],by decide,rA,by simp⟩,⟨[[120],[122]],by decide,rA,by simp⟩,trivial⟩,rA,fun _=>rA,rA,rA⟩
def bn19:Bun (zt4,[[120],[121],[122]]):=⟨rA,allL (l:=zt4.as) ⟨⟨[[120],[121]],by decide,rA,by simp⟩,⟨[[122],[121]],by decide,rA,by simp⟩,⟨[[122]],by decide,rA,by simp⟩,trivial⟩,rA,fun _=>rA,rA,rA⟩
def bn20:Bun (zt7,[[120]]):=⟨rA,allL (l:=zt7.as) ⟨⟨[[120]],by decide,rA,by simp⟩,trivial⟩,rA,fun _=>rA,rA,rA⟩
def bn21:Bun (zt9,[[120],[121],[122]]):=⟨rA,allL (l:=zt9.as) ⟨⟨[[120],[121]],by decide,rA,by simp⟩,⟨[[121],[122]],by decide,rA,by simp⟩,⟨[[120]],by decide,rA,by simp⟩,trivial⟩,rA,fun _=>rA,rA,rA⟩
def bn22:Bun (zEK,[[120],[121]]):=⟨rA,allL (l:=zEK.as) ⟨⟨[[120],[121]],by decide,rA,by simp⟩,trivial⟩,rA,fun _=>rA,rA,rA⟩
def bn23:Bun (zEM,[[122],[121]]):=⟨rA,allL (l:=zEM.as) ⟨⟨[[122],[121]],by decide,rA,by simp⟩,⟨[[122]],by decide,rA,by simp⟩,trivial⟩,rA,fun h=>absurd h (by decide),rA,rA⟩
def bnA:∀t∈TB,Bun t:=allL (l:=TB) ⟨bn0,bn1,bn2,bn3,bn4,bn5,bn6,bn7,bn8,bn9,bn10,bn11,bn12,bn13,bn14,bn15,bn16,bn17,bn18,bn19,bn20,bn21,bn22,bn23,trivial⟩
end Go.Proofs.YtbhholaillniiaaGreatDoor
