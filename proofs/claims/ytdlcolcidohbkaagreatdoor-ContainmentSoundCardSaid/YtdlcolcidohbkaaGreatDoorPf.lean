/- Closed runs of the checks of tuples and of the blocks, by the kernel. Written by program. -/
import Derived.Test.YtdlcolcidohbkaaGreatDoorPe
import Derived.KernelRfl
set_option linter.all false
set_option maxRecDepth 100000
set_option maxHeartbeats 4000000
namespace Go.Proofs.YtdlcolcidohbkaaGreatDoor
open Go Go.Vse Go.Vse.Sm
def v1(a:Int):F:= .sl 3 [[.i .i64 1,.i .i64 a,.s []]]
def v2(a b:Int):F:= .sl 3 [[.i .i64 1,.i .i64 a,.s []],[.i .i64 1,.i .i64 b,.s []]]
def kqR:F:= .sl 3 [[.s [97],.i .i64 1,.b false],[.s [98],.i .i64 1,.b false]]
def kqS:F:= .sl 3 [[.s [97],.i .i64 1,.b false]]
def kqK:F:= .sl 3 [[.s [107],.i .i64 1,.b true],[.s [118],.i .i64 1,.b false]]
def rCt{s:Nat×Nat}{f:Nat}{fs:List F}{x:F}(h:kI s=true:=by kernel_rfl)(e:zkC (zpy (lI s)) pr 400 f fs=some x:=by kernel_rfl):Ans pr f fs x:=zrV (zto h) e
def ctR(a b:Int):zaF (fun p=>∃e,Ans pr 45 [.ag [.s [82],.b false,kqR],.ag (v2 a b::p)] (.i .i64 e)) PPl:=⟨⟨0,rCt (s:=(1,2))⟩,⟨0,rCt (s:=(1,3))⟩,⟨0,rCt (s:=(2,3))⟩,⟨0,rCt (s:=(1,4))⟩,⟨0,rCt (s:=(1,1))⟩,⟨0,rCt (s:=(0,1))⟩,⟨0,rCt (s:=(3,5))⟩,⟨0,rCt (s:=(1,7))⟩,trivial⟩
def ctS(a:Int):zaF (fun p=>∃e,Ans pr 45 [.ag [.s [83],.b false,kqS],.ag (v1 a::p)] (.i .i64 e)) PPl:=⟨⟨0,rCt (s:=(1,2))⟩,⟨0,rCt (s:=(1,3))⟩,⟨0,rCt (s:=(2,3))⟩,⟨0,rCt (s:=(1,4))⟩,⟨0,rCt (s:=(1,1))⟩,⟨0,rCt (s:=(0,1))⟩,⟨0,rCt (s:=(3,5))⟩,⟨0,rCt (s:=(1,7))⟩,trivial⟩
def ctK(a b:Int):zaF (fun p=>∃e,Ans pr 45 [.ag [.s [75],.b false,kqK],.ag (v2 a b::p)] (.i .i64 e)) PPl:=⟨⟨0,rCt (s:=(1,2))⟩,⟨0,rCt (s:=(1,3))⟩,⟨0,rCt (s:=(2,3))⟩,⟨0,rCt (s:=(1,4))⟩,⟨0,rCt (s:=(1,1))⟩,⟨0,rCt (s:=(0,1))⟩,⟨0,rCt (s:=(3,5))⟩,⟨0,rCt (s:=(1,7))⟩,trivial⟩
def ctC(a b:Int):zaF (fun p=>∃e,Ans pr 45 [.ag [.s [67],.b true,kqR],.ag (v2 a b::p)] (.i .i64 e)) PPl:=⟨⟨19,rCt (s:=(1,2))⟩,⟨19,rCt (s:=(1,3))⟩,⟨19,rCt (s:=(2,3))⟩,⟨19,rCt (s:=(1,4))⟩,⟨0,rCt (s:=(1,1))⟩,⟨19,rCt (s:=(0,1))⟩,⟨19,rCt (s:=(3,5))⟩,⟨19,rCt (s:=(1,7))⟩,trivial⟩
def grR0:Ans pr 82 [.ag [.s [82],.b false,kqR,.nils]] (.nils):=rA
def grR1(k0 a0:Int)(p00 p01 p02:F):Ans pr 82 [.ag [.s [82],.b false,kqR,.sl 4 [[v2 k0 a0,p00,p01,p02]]]] (.sl 1 [[.sl 1 [[.i .i64 0]]]]):=rA
def grR2(k0 a0:Int)(p00 p01 p02:F)(k1 a1:Int)(p10 p11 p12:F):Ans pr 82 [.ag [.s [82],.b false,kqR,.sl 4 [[v2 k0 a0,p00,p01,p02],[v2 k1 a1,p10,p11,p12]]]] (.sl 1 [[.sl 1 [[.i .i64 0]]],[.sl 1 [[.i .i64 1]]]]):=rA
def grR3(k0 a0:Int)(p00 p01 p02:F)(k1 a1:Int)(p10 p11 p12:F)(k2 a2:Int)(p20 p21 p22:F):Ans pr 82 [.ag [.s [82],.b false,kqR,.sl 4 [[v2 k0 a0,p00,p01,p02],[v2 k1 a1,p10,p11,p12],[v2 k2 a2,p20,p21,p22]]]] (.sl 1 [[.sl 1 [[.i .i64 0]]],[.sl 1 [[.i .i64 1]]],[.sl 1 [[.i .i64 2]]]]):=rA
def grS0:Ans pr 82 [.ag [.s [83],.b false,kqS,.nils]] (.nils):=rA
def grS1(k0:Int)(p00 p01 p02:F):Ans pr 82 [.ag [.s [83],.b false,kqS,.sl 4 [[v1 k0,p00,p01,p02]]]] (.sl 1 [[.sl 1 [[.i .i64 0]]]]):=rA
def grS2(k0:Int)(p00 p01 p02:F)(k1:Int)(p10 p11 p12:F):Ans pr 82 [.ag [.s [83],.b false,kqS,.sl 4 [[v1 k0,p00,p01,p02],[v1 k1,p10,p11,p12]]]] (.sl 1 [[.sl 1 [[.i .i64 0]]],[.sl 1 [[.i .i64 1]]]]):=rA
def grS3(k0:Int)(p00 p01 p02:F)(k1:Int)(p10 p11 p12:F)(k2:Int)(p20 p21 p22:F):Ans pr 82 [.ag [.s [83],.b false,kqS,.sl 4 [[v1 k0,p00,p01,p02],[v1 k1,p10,p11,p12],[v1 k2,p20,p21,p22]]]] (.sl 1 [[.sl 1 [[.i .i64 0]]],[.sl 1 [[.i .i64 1]]],[.sl 1 [[.i .i64 2]]]]):=rA
def grK0:Ans pr 82 [.ag [.s [75],.b false,kqK,.nils]] (.nils):=rA
def grK1(k0 a0:Int)(p00 p01 p02:F):Ans pr 82 [.ag [.s [75],.b false,kqK,.sl 4 [[v2 k0 a0,p00,p01,p02]]]] (.sl 1 [[.sl 1 [[.i .i64 0]]]]):=rA
def grC(x:F):Ans pr 82 [.ag [.s [67],.b true,kqR,x]] .nils:=rA
end Go.Proofs.YtdlcolcidohbkaaGreatDoor
