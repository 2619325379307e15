/- The conjunctive queries of the builders, their cores: what is answered of them (closed runs). Written by program. -/
import Derived.Test.YtdlcolcidohbkaaGreatDoorPk
import Derived.Test.YtdlcolcidohbkaaGreatDoorPa
import Derived.KernelRfl
import Derived.Test.YtdlcolcidohbkaaGreatDoorPl
set_option linter.all false
set_option maxRecDepth 100000
set_option maxHeartbeats 4000000
namespace Go.Proofs.YtdlcolcidohbkaaGreatDoor
open Go Go.Vse Go.Vse.Sm
def vsA:Ans pr 101 [zcC] (.b true):=rA
def soA:Ans pr 19 [zcC] (.b true):=rA
def n8A:∀s∈([[120],[121],[122]]:List Str),Ans pr 51 [.s s] (.b true):=allL ⟨rA,rA,rA,trivial⟩
def nmA:∀s∈([[120],[121],[122]]:List Str),Ans pr 168 [.s s] (.b true):=allL ⟨rA,rA,rA,trivial⟩
structure ScR(nm:Str)(n:Nat):Prop where
 q:∃ce cols,Ans pr 180 [zcC,.s nm] (.tu [.ag [.s nm,.b ce,slc 3 cols],.b true])/\cols.length=n/\∀x∈cols,∃s b,x=[F.s s,.i .i64 1,.b b]
def scR:ScR [82] 2:=⟨false,[[.s [97],.i .i64 1,.b false],[.s [98],.i .i64 1,.b false]],rA,rfl,by simp⟩
def scS:ScR [83] 1:=⟨false,[[.s [97],.i .i64 1,.b false]],rA,rfl,by simp⟩
def scK:ScR [75] 2:=⟨false,[[.s [107],.i .i64 1,.b true],[.s [118],.i .i64 1,.b false]],rA,rfl,by simp⟩
def scC:ScR [67] 2:=⟨true,[[.s [97],.i .i64 1,.b false],[.s [98],.i .i64 1,.b false]],rA,rfl,by simp⟩
def f12A:∀s∈([[82],[83],[75],[67]]:List Str),∃ce cols,Ans pr 50 [zcC,.s s] (.tu [.ag [.s s,.b ce,slc 3 cols],.b true]):=allL (P:=fun s=>∃ce cols,Ans pr 50 [zcC,.s s] (.tu [.ag [.s s,.b ce,slc 3 cols],.b true])) ⟨⟨false,[[.s [97],.i .i64 1,.b false],[.s [98],.i .i64 1,.b false]],rA⟩,⟨false,[[.s [97],.i .i64 1,.b false]],rA⟩,⟨false,[[.s [107],.i .i64 1,.b true],[.s [118],.i .i64 1,.b false]],rA⟩,⟨true,[[.s [97],.i .i64 1,.b false],[.s [98],.i .i64 1,.b false]],rA⟩,trivial⟩
def csA:∀n∈([1,2,3]:List Int),Ans pr 169 [.ag (Sm.vF n)] (.b true):=allL ⟨rA,rA,rA,trivial⟩
def VzL:List Int:=[1,2,3]
def keN:Ans pr 111 [.sl 3 []] .nils:=rA
def zAs(v:List Int):List UInt8:=v.flatMap fun z=>[1,128,0,0,0,0,0,0,UInt8.ofNat z.toNat]
def keyF(v:List Int):F:= .sl 1 ((zAs v).map fun b=>[.i .u8 b.toNat])
def keA:∀z∈VzL,Ans pr 111 [.sl 3 [Sm.vF z]] (keyF [z]):=allL (l:=VzL) ⟨rA,rA,rA,trivial⟩
def keB:∀y∈VzL,∀z∈VzL,Ans pr 111 [.sl 3 [Sm.vF y,Sm.vF z]] (keyF [y,z]):=allL (l:=VzL) ⟨allL (l:=VzL) ⟨rA,rA,rA,trivial⟩,allL (l:=VzL) ⟨rA,rA,rA,trivial⟩,allL (l:=VzL) ⟨rA,rA,rA,trivial⟩,trivial⟩
def rQ{fs:List F}{x:F}(h:zkC zEF pr 400 30 fs=some x:=by kernel_rfl):Ans pr 30 fs x:=zgn (ziy pr) h
def EX(b i:Nat):Prop:=zaF (fun j=>Ans pr 30 [.ag (cqF (cqN i)),.ag (cqF (cqN j)),zah (hdC b)] (.b (exI b i j))) (ixL b)
def eX{b i:Nat}(h:EX b i:=by repeat (first|exact trivial|refine And.intro rQ ?_)):EX b i:=h
end Go.Proofs.YtdlcolcidohbkaaGreatDoor
