/- The conjunctive queries of the builders, their cores: what is answered of them (closed runs). Written by program. -/
import Derived.Test.YtbhholaillniiaaGreatDoorPk
import Derived.Test.YtbhholaillniiaaGreatDoorPa
import Derived.KernelRfl
import Derived.Test.YtbhholaillniiaaGreatDoorPl
set_option linter.all false
set_option maxRecDepth 100000
set_option maxHeartbeats 4000000
namespace Go.Proofs.YtbhholaillniiaaGreatDoor
open Go Go.Vse Go.Vse.Sm
def vsA:Ans pr 38 [zjr] (.b true):=rA
def nmA:∀s∈([[120],[121],[122]]:List Str),Ans pr 76 [.s s] (.b true):=allL ⟨rA,rA,rA,trivial⟩
structure ScR(nm:Str)(n:Nat):Prop where
 q:∃ce cols,Ans pr 73 [zjr,.s nm] (.tu [.ag [.s nm,.b ce,slc 3 cols],.b true])/\cols.length=n/\∀x∈cols,∃s b,x=[F.s s,.i .i64 1,.b b]
def scR:ScR [82] 2:=⟨false,[[.s [97],.i .i64 1,.b false],[.s [98],.i .i64 1,.b false]],rA,rfl,by simp⟩
def scS:ScR [83] 1:=⟨false,[[.s [97],.i .i64 1,.b false]],rA,rfl,by simp⟩
def scK:ScR [75] 2:=⟨false,[[.s [107],.i .i64 1,.b true],[.s [118],.i .i64 1,.b false]],rA,rfl,by simp⟩
def scC:ScR [67] 2:=⟨true,[[.s [97],.i .i64 1,.b false],[.s [98],.i .i64 1,.b false]],rA,rfl,by simp⟩
def csA:∀n∈([1,2,3]:List Int),Ans pr 136 [.ag (Sm.vF n)] (.b true):=allL ⟨rA,rA,rA,trivial⟩
def smE:Ans pr 10 [zfW [[]],zfW [[]]] (.b true):=rA
def smA:∀R∈([[],[[1]],[[2]],[[3]],[[1],[2]],[[1],[3]],[[2],[3]],[[1],[2],[3]]]:List (List (List Int))),Ans pr 10 [zfW R,zfW R] (.b true):=allL ⟨rA,rA,rA,rA,rA,rA,rA,rA,trivial⟩
theorem shA:∀b,Ans pr 52 [zah (hdC b),zah (hdC b)] (.b true)
 |false=>rA
 |true=>rA
def VzL:List Int:=[1,2,3]
def keN:Ans pr 116 [.sl 3 []] .nils:=rA
def keyR(v:List Int):List UInt8:=v.flatMap fun z=>[1,128,0,0,0,0,0,0,UInt8.ofNat z.toNat]
def keyF(v:List Int):F:= .sl 1 ((keyR v).map fun b=>[.i .u8 b.toNat])
def keA:∀z∈VzL,Ans pr 116 [.sl 3 [Sm.vF z]] (keyF [z]):=allL (l:=VzL) ⟨rA,rA,rA,trivial⟩
def co0:zat (fun i=>Ans pr 18 [.ag (cqF (cqN i)),zah (hdC false)] (.ag (cqF (cqN (coI false i))))) (ixL false):=⟨rA,rA,rA,rA,rA,rA,rA,rA,rA,rA,rA,rA,rA,rA,rA,rA,rA,rA,rA,rA,rA,rA,rA,rA,trivial⟩
def co1:zat (fun i=>Ans pr 18 [.ag (cqF (cqN i)),zah (hdC true)] (.ag (cqF (cqN (coI true i))))) (ixL true):=⟨rA,rA,rA,rA,rA,rA,rA,rA,rA,rA,rA,rA,rA,rA,rA,rA,rA,rA,rA,rA,rA,rA,rA,trivial⟩
theorem coA:∀{b:Bool} {i:Nat},i<nH b->Ans pr 18 [.ag (cqF (cqN i)),zah (hdC b)] (.ag (cqF (cqN (coI b i))))
 |false,i,h=>allL co0 i (Z174.2 h)
 |true,i,h=>allL co1 i (Z174.2 h)
def rQ{fs:List F}{x:F}(h:zjo zFy pr 400 22 fs=some x:=by kernel_rfl):Ans pr 22 fs x:=zlJ (zq4 pr) h
end Go.Proofs.YtbhholaillniiaaGreatDoor
