/- The checks of tuples and the blocks of the program, by the kernel. Written by program. -/
import Derived.Test.YtdlcolcidohbkaaGreatDoorPzj
import Derived.KernelRfl
set_option linter.all false
set_option maxRecDepth 100000
set_option maxHeartbeats 4000000
namespace Go.Proofs.YtdlcolcidohbkaaGreatDoor
open Go Go.Vse Go.Vse.Sm
def S2:List (Int×Int):=[(1,1),(1,2),(1,3),(2,2),(2,3),(3,3)]
def S3:List (Int×Int×Int):=[(1,1,1),(1,1,2),(1,1,3),(1,2,2),(1,2,3),(1,3,3),(2,2,2),(2,2,3),(2,3,3),(3,3,3)]
def s2K:(S2.all fun k=>decide (k∈K2))=true:=by kernel_rfl
def s3K:(S3.all fun k=>decide (k∈K3))=true:=by kernel_rfl
def gpK2(a0:Int)(p00 p01 p02:F)(a1:Int)(p10 p11 p12:F):zaF (fun k=>Ans pr 97 [.ag [.s [75],.b false,kqK,.sl 4 [[v2 k.1 a0,p00,p01,p02],[v2 k.2 a1,p10,p11,p12]]]] (zcA (rsK [k.1,k.2]))) S2:=by repeat (first|exact trivial|refine And.intro rA ?_)
def gpK3(a0:Int)(p00 p01 p02:F)(a1:Int)(p10 p11 p12:F)(a2:Int)(p20 p21 p22:F):zaF (fun k=>Ans pr 97 [.ag [.s [75],.b false,kqK,.sl 4 [[v2 k.1 a0,p00,p01,p02],[v2 k.2.1 a1,p10,p11,p12],[v2 k.2.2 a2,p20,p21,p22]]]] (zcA (rsK [k.1,k.2.1,k.2.2]))) S3:=by repeat (first|exact trivial|refine And.intro rA ?_)
def vqR:Ans pr 95 [.ag [.s [82],.b false,kqR]] (.b true):=rA
def cqR(a b:Int):zaF (fun p=>Ans pr 96 [.ag [.s [82],.b false,kqR],.ag (v2 a b::p)] (.i .i64 0)) PPl:=⟨rA,rA,rA,rA,rA,rA,rA,rA,trivial⟩
def cpR(t:List Int×List F)(h:TuR t):Ans pr 96 [.ag [.s [82],.b false,coR],.ag (tuF t)] (.i .i64 0):=by
 obtain⟨hp,a,b,he,_,_⟩ :=h;obtain⟨vs,p⟩ :=t;simp only at he;subst he;exact allL (cqR a b) p hp
def gpR0:Ans pr 97 [.ag [.s [82],.b false,kqR,.nils]] (.nils):=rA
def gpR1(k0 a0:Int)(p00 p01 p02:F):Ans pr 97 [.ag [.s [82],.b false,kqR,.sl 4 [[v2 k0 a0,p00,p01,p02]]]] (.sl 1 [[.sl 1 [[.i .i64 0]]]]):=rA
def gpR2(k0 a0:Int)(p00 p01 p02:F)(k1 a1:Int)(p10 p11 p12:F):Ans pr 97 [.ag [.s [82],.b false,kqR,.sl 4 [[v2 k0 a0,p00,p01,p02],[v2 k1 a1,p10,p11,p12]]]] (.sl 1 [[.sl 1 [[.i .i64 0]]],[.sl 1 [[.i .i64 1]]]]):=rA
def gpR3(k0 a0:Int)(p00 p01 p02:F)(k1 a1:Int)(p10 p11 p12:F)(k2 a2:Int)(p20 p21 p22:F):Ans pr 97 [.ag [.s [82],.b false,kqR,.sl 4 [[v2 k0 a0,p00,p01,p02],[v2 k1 a1,p10,p11,p12],[v2 k2 a2,p20,p21,p22]]]] (.sl 1 [[.sl 1 [[.i .i64 0]]],[.sl 1 [[.i .i64 1]]],[.sl 1 [[.i .i64 2]]]]):=rA
def gqR(tu:List (List Int×List F))(hn:tu.length<=3)(h:∀t∈tu,TuR t)(hs:zmc (rH tu) tu.length):∃B:List (List Nat),Ans pr 82 [.ag (rlF (rH tu))] (zcA B)/\Ans pr 97 [.ag (rlF (rH tu))] (zcA B)/\B.length<=3/\(∀b∈B,b.length<=3/\∀i∈b,i<tu.length)/\B.flatten.Nodup/\∀b∈B,b≠[]:=by
 match tu,hn with
 |[],_=>
  exact⟨[],grR0,gpR0,by simp,by simp,by simp,by simp⟩
 |[t0],_=>
  obtain⟨hp0,a0,b0,he0,l0,k0⟩ :=h t0 (by simp);obtain⟨x0,y0,z0,hx0,_,_,_⟩ :=zaS _ hp0;obtain⟨v0,w0⟩ :=t0;simp only at he0 hx0;subst he0 hx0;exact⟨[[0]],grR1 a0 b0 x0 y0 z0,gpR1 a0 b0 x0 y0 z0,by simp,by simp,by simp,by simp⟩
 |[t0,t1],_=>
  obtain⟨hp0,a0,b0,he0,l0,k0⟩ :=h t0 (by simp);obtain⟨x0,y0,z0,hx0,_,_,_⟩ :=zaS _ hp0;obtain⟨v0,w0⟩ :=t0;simp only at he0 hx0;subst he0 hx0;obtain⟨hp1,a1,b1,he1,l1,k1⟩ :=h t1 (by simp);obtain⟨x1,y1,z1,hx1,_,_,_⟩ :=zaS _ hp1;obtain⟨v1,w1⟩ :=t1;simp only at he1 hx1;subst he1 hx1;exact⟨[[0],[1]],grR2 a0 b0 x0 y0 z0 a1 b1 x1 y1 z1,gpR2 a0 b0 x0 y0 z0 a1 b1 x1 y1 z1,by simp,by simp,by simp,by simp⟩
 |[t0,t1,t2],_=>
  obtain⟨hp0,a0,b0,he0,l0,k0⟩ :=h t0 (by simp);obtain⟨x0,y0,z0,hx0,_,_,_⟩ :=zaS _ hp0;obtain⟨v0,w0⟩ :=t0;simp only at he0 hx0;subst he0 hx0;obtain⟨hp1,a1,b1,he1,l1,k1⟩ :=h t1 (by simp);obtain⟨x1,y1,z1,hx1,_,_,_⟩ :=zaS _ hp1;obtain⟨v1,w1⟩ :=t1;simp only at he1 hx1;subst he1 hx1;obtain⟨hp2,a2,b2,he2,l2,k2⟩ :=h t2 (by simp);obtain⟨x2,y2,z2,hx2,_,_,_⟩ :=zaS _ hp2;obtain⟨v2,w2⟩ :=t2;simp only at he2 hx2;subst he2 hx2;exact⟨[[0],[1],[2]],grR3 a0 b0 x0 y0 z0 a1 b1 x1 y1 z1 a2 b2 x2 y2 z2,gpR3 a0 b0 x0 y0 z0 a1 b1 x1 y1 z1 a2 b2 x2 y2 z2,by simp,by simp,by simp,by simp⟩
 |_::_::_::_::_,h=>exact absurd h (by simp)
def vqS:Ans pr 95 [.ag [.s [83],.b false,kqS]] (.b true):=rA
def cqS(a:Int):zaF (fun p=>Ans pr 96 [.ag [.s [83],.b false,kqS],.ag (v1 a::p)] (.i .i64 0)) PPl:=⟨rA,rA,rA,rA,rA,rA,rA,rA,trivial⟩
def cpS(t:List Int×List F)(h:TuS t):Ans pr 96 [.ag [.s [83],.b false,coS],.ag (tuF t)] (.i .i64 0):=by
 obtain⟨hp,a,he⟩ :=h;obtain⟨vs,p⟩ :=t;simp only at he;subst he;exact allL (cqS a) p hp
def gpS0:Ans pr 97 [.ag [.s [83],.b false,kqS,.nils]] (.nils):=rA
def gpS1(k0:Int)(p00 p01 p02:F):Ans pr 97 [.ag [.s [83],.b false,kqS,.sl 4 [[v1 k0,p00,p01,p02]]]] (.sl 1 [[.sl 1 [[.i .i64 0]]]]):=rA
def gpS2(k0:Int)(p00 p01 p02:F)(k1:Int)(p10 p11 p12:F):Ans pr 97 [.ag [.s [83],.b false,kqS,.sl 4 [[v1 k0,p00,p01,p02],[v1 k1,p10,p11,p12]]]] (.sl 1 [[.sl 1 [[.i .i64 0]]],[.sl 1 [[.i .i64 1]]]]):=rA
def gpS3(k0:Int)(p00 p01 p02:F)(k1:Int)(p10 p11 p12:F)(k2:Int)(p20 p21 p22:F):Ans pr 97 [.ag [.s [83],.b false,kqS,.sl 4 [[v1 k0,p00,p01,p02],[v1 k1,p10,p11,p12],[v1 k2,p20,p21,p22]]]] (.sl 1 [[.sl 1 [[.i .i64 0]]],[.sl 1 [[.i .i64 1]]],[.sl 1 [[.i .i64 2]]]]):=rA
def gqS(tu:List (List Int×List F))(hn:tu.length<=3)(h:∀t∈tu,TuS t)(hs:zmc (rS tu) tu.length):∃B:List (List Nat),Ans pr 82 [.ag (rlF (rS tu))] (zcA B)/\Ans pr 97 [.ag (rlF (rS tu))] (zcA B)/\B.length<=3/\(∀b∈B,b.length<=3/\∀i∈b,i<tu.length)/\B.flatten.Nodup/\∀b∈B,b≠[]:=by
 match tu,hn with
 |[],_=>
  exact⟨[],grS0,gpS0,by simp,by simp,by simp,by simp⟩
 |[t0],_=>
  obtain⟨hp0,a0,he0⟩ :=h t0 (by simp);obtain⟨x0,y0,z0,hx0,_,_,_⟩ :=zaS _ hp0;obtain⟨v0,w0⟩ :=t0;simp only at he0 hx0;subst he0 hx0;exact⟨[[0]],grS1 a0 x0 y0 z0,gpS1 a0 x0 y0 z0,by simp,by simp,by simp,by simp⟩
 |[t0,t1],_=>
  obtain⟨hp0,a0,he0⟩ :=h t0 (by simp);obtain⟨x0,y0,z0,hx0,_,_,_⟩ :=zaS _ hp0;obtain⟨v0,w0⟩ :=t0;simp only at he0 hx0;subst he0 hx0;obtain⟨hp1,a1,he1⟩ :=h t1 (by simp);obtain⟨x1,y1,z1,hx1,_,_,_⟩ :=zaS _ hp1;obtain⟨v1,w1⟩ :=t1;simp only at he1 hx1;subst he1 hx1;exact⟨[[0],[1]],grS2 a0 x0 y0 z0 a1 x1 y1 z1,gpS2 a0 x0 y0 z0 a1 x1 y1 z1,by simp,by simp,by simp,by simp⟩
 |[t0,t1,t2],_=>
  obtain⟨hp0,a0,he0⟩ :=h t0 (by simp);obtain⟨x0,y0,z0,hx0,_,_,_⟩ :=zaS _ hp0;obtain⟨v0,w0⟩ :=t0;simp only at he0 hx0;subst he0 hx0;obtain⟨hp1,a1,he1⟩ :=h t1 (by simp);obtain⟨x1,y1,z1,hx1,_,_,_⟩ :=zaS _ hp1;obtain⟨v1,w1⟩ :=t1;simp only at he1 hx1;subst he1 hx1;obtain⟨hp2,a2,he2⟩ :=h t2 (by simp);obtain⟨x2,y2,z2,hx2,_,_,_⟩ :=zaS _ hp2;obtain⟨v2,w2⟩ :=t2;simp only at he2 hx2;subst he2 hx2;exact⟨[[0],[1],[2]],grS3 a0 x0 y0 z0 a1 x1 y1 z1 a2 x2 y2 z2,gpS3 a0 x0 y0 z0 a1 x1 y1 z1 a2 x2 y2 z2,by simp,by simp,by simp,by simp⟩
 |_::_::_::_::_,h=>exact absurd h (by simp)
def vqK:Ans pr 95 [.ag [.s [75],.b false,kqK]] (.b true):=rA
def cqK(a b:Int):zaF (fun p=>Ans pr 96 [.ag [.s [75],.b false,kqK],.ag (v2 a b::p)] (.i .i64 0)) PPl:=⟨rA,rA,rA,rA,rA,rA,rA,rA,trivial⟩
def cpK(t:List Int×List F)(h:TuK t):Ans pr 96 [.ag [.s [75],.b false,coK],.ag (tuF t)] (.i .i64 0):=by
 obtain⟨hp,a,b,he,_,_⟩ :=h;obtain⟨vs,p⟩ :=t;simp only at he;subst he;exact allL (cqK a b) p hp
def gpK0:Ans pr 97 [.ag [.s [75],.b false,kqK,.nils]] (.nils):=rA
def gpK1(k0 a0:Int)(p00 p01 p02:F):Ans pr 97 [.ag [.s [75],.b false,kqK,.sl 4 [[v2 k0 a0,p00,p01,p02]]]] (.sl 1 [[.sl 1 [[.i .i64 0]]]]):=rA
def gqK(tu:List (List Int×List F))(hn:tu.length<=3)(h:∀t∈tu,TuK t)(hs:zmc (rK tu) tu.length):∃B:List (List Nat),Ans pr 82 [.ag (rlF (rK tu))] (zcA B)/\Ans pr 97 [.ag (rlF (rK tu))] (zcA B)/\B.length<=3/\(∀b∈B,b.length<=3/\∀i∈b,i<tu.length)/\B.flatten.Nodup/\∀b∈B,b≠[]:=by
 match tu,hn with
 |[],_=>
  exact⟨[],grK0,gpK0,by simp,by simp,by simp,by simp⟩
 |[t0],_=>
  obtain⟨hp0,a0,b0,he0,l0,k0⟩ :=h t0 (by simp);obtain⟨x0,y0,z0,hx0,_,_,_⟩ :=zaS _ hp0;obtain⟨v0,w0⟩ :=t0;simp only at he0 hx0;subst he0 hx0;exact⟨[[0]],grK1 a0 b0 x0 y0 z0,gpK1 a0 b0 x0 y0 z0,by simp,by simp,by simp,by simp⟩
 |[t0,t1],_=>
  obtain⟨hp0,a0,b0,he0,l0,k0⟩ :=h t0 (by simp);obtain⟨x0,y0,z0,hx0,_,_,_⟩ :=zaS _ hp0;obtain⟨v0,w0⟩ :=t0;simp only at he0 hx0;subst he0 hx0;obtain⟨hp1,a1,b1,he1,l1,k1⟩ :=h t1 (by simp);obtain⟨x1,y1,z1,hx1,_,_,_⟩ :=zaS _ hp1;obtain⟨v1,w1⟩ :=t1;simp only at he1 hx1;subst he1 hx1;have hs0:cmpL [a0,b0] [a1,b1]<0:=hs 0 (by simp[rK]) (by simp);have hm:(a0,a1)∈S2:=by
   have q0:a0=1\/a0=2\/a0=3:=by omega
   have q1:a1=1\/a1=2\/a1=3:=by omega
   rcases q0 with rfl|rfl|rfl<;>rcases q1 with rfl|rfl|rfl<;>first|decide|(simp[cmpL,zaW]at hs0;done)
  have hm2:=of_decide_eq_true (Z50.1 s2K _ hm);obtain⟨⟨c1,c2⟩,c3,c4⟩ :=zp6 (Z50.1 k2B _ hm2);exact⟨_,allL (grK2 b0 x0 y0 z0 b1 x1 y1 z1) _ hm2,allL (gpK2 b0 x0 y0 z0 b1 x1 y1 z1) _ hm,c1,c2,c3,c4⟩
 |[t0,t1,t2],_=>
  obtain⟨hp0,a0,b0,he0,l0,k0⟩ :=h t0 (by simp);obtain⟨x0,y0,z0,hx0,_,_,_⟩ :=zaS _ hp0;obtain⟨v0,w0⟩ :=t0;simp only at he0 hx0;subst he0 hx0;obtain⟨hp1,a1,b1,he1,l1,k1⟩ :=h t1 (by simp);obtain⟨x1,y1,z1,hx1,_,_,_⟩ :=zaS _ hp1;obtain⟨v1,w1⟩ :=t1;simp only at he1 hx1;subst he1 hx1;obtain⟨hp2,a2,b2,he2,l2,k2⟩ :=h t2 (by simp);obtain⟨x2,y2,z2,hx2,_,_,_⟩ :=zaS _ hp2;obtain⟨v2,w2⟩ :=t2;simp only at he2 hx2;subst he2 hx2;have hs0:cmpL [a0,b0] [a1,b1]<0:=hs 0 (by simp[rK]) (by simp);have hs1:cmpL [a1,b1] [a2,b2]<0:=hs 1 (by simp[rK]) (by simp);have hm:(a0,a1,a2)∈S3:=by
   have q0:a0=1\/a0=2\/a0=3:=by omega
   have q1:a1=1\/a1=2\/a1=3:=by omega
   have q2:a2=1\/a2=2\/a2=3:=by omega
   rcases q0 with rfl|rfl|rfl<;>rcases q1 with rfl|rfl|rfl<;>rcases q2 with rfl|rfl|rfl<;>first|decide|(simp[cmpL,zaW]at hs0;done)|(simp[cmpL,zaW]at hs1;done)
  have hm2:=of_decide_eq_true (Z50.1 s3K _ hm);obtain⟨⟨c1,c2⟩,c3,c4⟩ :=zp6 (Z50.1 k3B _ hm2);exact⟨_,allL (grK3 b0 x0 y0 z0 b1 x1 y1 z1 b2 x2 y2 z2) _ hm2,allL (gpK3 b0 x0 y0 z0 b1 x1 y1 z1 b2 x2 y2 z2) _ hm,c1,c2,c3,c4⟩
 |_::_::_::_::_,h=>exact absurd h (by simp)
def vqC:Ans pr 95 [.ag [.s [67],.b true,kqR]] (.b true):=rA
def cqC(a b:Int):Ans pr 96 [.ag [.s [67],.b true,kqR],.ag (v2 a b::u5)] (.i .i64 0):=rA
def cpC(t:List Int×List F)(h:TuC t):Ans pr 96 [.ag [.s [67],.b true,coC],.ag (tuF t)] (.i .i64 0):=by
 obtain⟨hp,a,b,he,e2⟩ :=h;obtain⟨vs,p⟩ :=t;simp only at he;subst he;simp only at e2;subst e2;exact cqC a b
def gpC(x:F):Ans pr 97 [.ag [.s [67],.b true,kqR,x]] .nils:=rA
def gqC(tu:List (List Int×List F)):∃B:List (List Nat),Ans pr 82 [.ag (rlF (rC tu))] (zcA B)/\Ans pr 97 [.ag (rlF (rC tu))] (zcA B)/\B.length<=3/\(∀b∈B,b.length<=3/\∀i∈b,i<tu.length)/\B.flatten.Nodup/\(∀b∈B,b≠[])/\B=[]:=⟨[],grC _,gpC _,by simp,by simp,by simp,by simp,rfl⟩
end Go.Proofs.YtdlcolcidohbkaaGreatDoor
