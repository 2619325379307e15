/- The checks of tuples and the blocks of the program, by the kernel. Written by program. -/
import Derived.Test.YtlinkhjnihjbaaaGreatDoorPq
import Derived.KernelRfl
import Derived.Test.YtlinkhjnihjbaaaGreatDoorPp
import Derived.IntWalk
import Derived.Test.YtlinkhjnihjbaaaGreatDoorPk
import Derived.Test.YtlinkhjnihjbaaaGreatDoorPl
import Derived.Test.YtlinkhjnihjbaaaGreatDoorPm
import Derived.Test.YtlinkhjnihjbaaaGreatDoorPn
set_option linter.all false
set_option maxRecDepth 100000
set_option maxHeartbeats 4000000
section
namespace Go.Proofs.YtlinkhjnihjbaaaGreatDoor
open Go Go.Vse Go.Vse.Sm
def vqR:Ans pr 206 [.ag [.s [82],.b false,kqR]] (.b true):=zab (n:=1000) (zad pr) (by kernel_rfl)
def wqR0:Ans pr 285 [.ag [.s [82],.b false,kqR],.ag u1] (.b true):=zab (n:=1000) (zad pr) (by kernel_rfl)
def cpR0(a b:Int):zav pr (207,[.ag [.s [82],.b false,kqR],.ag (v2 a b::u1)],.i .i64 0):=
 zdw (mask:=62165404551223330269422883862387437587934653535242374514464558532636539225308131229696) (n:=400) (l:=[(206,[.ag [.s [82],.b false,kqR]],.b true),(285,[.ag [.s [82],.b false,kqR],.ag u1],.b true)]) ⟨vqR,wqR0,trivial⟩ (by kernel_rfl)
def wqR1:Ans pr 285 [.ag [.s [82],.b false,kqR],.ag u2] (.b true):=zab (n:=1000) (zad pr) (by kernel_rfl)
def cpR1(a b:Int):zav pr (207,[.ag [.s [82],.b false,kqR],.ag (v2 a b::u2)],.i .i64 0):=
 zdw (mask:=62165404551223330269422883862387437587934653535242374514464558532636539225308131229696) (n:=400) (l:=[(206,[.ag [.s [82],.b false,kqR]],.b true),(285,[.ag [.s [82],.b false,kqR],.ag u2],.b true)]) ⟨vqR,wqR1,trivial⟩ (by kernel_rfl)
def wqR2:Ans pr 285 [.ag [.s [82],.b false,kqR],.ag u3] (.b true):=zab (n:=1000) (zad pr) (by kernel_rfl)
def cpR2(a b:Int):zav pr (207,[.ag [.s [82],.b false,kqR],.ag (v2 a b::u3)],.i .i64 0):=
 zdw (mask:=62165404551223330269422883862387437587934653535242374514464558532636539225308131229696) (n:=400) (l:=[(206,[.ag [.s [82],.b false,kqR]],.b true),(285,[.ag [.s [82],.b false,kqR],.ag u3],.b true)]) ⟨vqR,wqR2,trivial⟩ (by kernel_rfl)
def wqR3:Ans pr 285 [.ag [.s [82],.b false,kqR],.ag u4] (.b true):=zab (n:=1000) (zad pr) (by kernel_rfl)
def cpR3(a b:Int):zav pr (207,[.ag [.s [82],.b false,kqR],.ag (v2 a b::u4)],.i .i64 0):=
 zdw (mask:=62165404551223330269422883862387437587934653535242374514464558532636539225308131229696) (n:=400) (l:=[(206,[.ag [.s [82],.b false,kqR]],.b true),(285,[.ag [.s [82],.b false,kqR],.ag u4],.b true)]) ⟨vqR,wqR3,trivial⟩ (by kernel_rfl)
def wqR4:Ans pr 285 [.ag [.s [82],.b false,kqR],.ag u5] (.b true):=zab (n:=1000) (zad pr) (by kernel_rfl)
def cpR4(a b:Int):zav pr (207,[.ag [.s [82],.b false,kqR],.ag (v2 a b::u5)],.i .i64 0):=
 zdw (mask:=62165404551223330269422883862387437587934653535242374514464558532636539225308131229696) (n:=400) (l:=[(206,[.ag [.s [82],.b false,kqR]],.b true),(285,[.ag [.s [82],.b false,kqR],.ag u5],.b true)]) ⟨vqR,wqR4,trivial⟩ (by kernel_rfl)
def wqR5:Ans pr 285 [.ag [.s [82],.b false,kqR],.ag u0] (.b true):=zab (n:=1000) (zad pr) (by kernel_rfl)
def cpR5(a b:Int):zav pr (207,[.ag [.s [82],.b false,kqR],.ag (v2 a b::u0)],.i .i64 0):=
 zdw (mask:=62165404551223330269422883862387437587934653535242374514464558532636539225308131229696) (n:=400) (l:=[(206,[.ag [.s [82],.b false,kqR]],.b true),(285,[.ag [.s [82],.b false,kqR],.ag u0],.b true)]) ⟨vqR,wqR5,trivial⟩ (by kernel_rfl)
def wqR6:Ans pr 285 [.ag [.s [82],.b false,kqR],.ag u6] (.b true):=zab (n:=1000) (zad pr) (by kernel_rfl)
def cpR6(a b:Int):zav pr (207,[.ag [.s [82],.b false,kqR],.ag (v2 a b::u6)],.i .i64 0):=
 zdw (mask:=62165404551223330269422883862387437587934653535242374514464558532636539225308131229696) (n:=400) (l:=[(206,[.ag [.s [82],.b false,kqR]],.b true),(285,[.ag [.s [82],.b false,kqR],.ag u6],.b true)]) ⟨vqR,wqR6,trivial⟩ (by kernel_rfl)
def wqR7:Ans pr 285 [.ag [.s [82],.b false,kqR],.ag u7] (.b true):=zab (n:=1000) (zad pr) (by kernel_rfl)
def cpR7(a b:Int):zav pr (207,[.ag [.s [82],.b false,kqR],.ag (v2 a b::u7)],.i .i64 0):=
 zdw (mask:=62165404551223330269422883862387437587934653535242374514464558532636539225308131229696) (n:=400) (l:=[(206,[.ag [.s [82],.b false,kqR]],.b true),(285,[.ag [.s [82],.b false,kqR],.ag u7],.b true)]) ⟨vqR,wqR7,trivial⟩ (by kernel_rfl)
def cpR(t:List Int×List F)(h:TuR t):Ans pr 207 [.ag [.s [82],.b false,coR],.ag (tuF t)] (.i .i64 0):=by
 obtain⟨hp,a,b,he,_,_⟩ :=h;obtain⟨vs,p⟩ :=t;simp only at he;subst he;exact allL (P:=fun p=>Ans pr 207 [.ag [.s [82],.b false,coR],.ag (tuF ([a,b],p))] (.i .i64 0)) (l:=PPl) ⟨cpR0 a b,cpR1 a b,cpR2 a b,cpR3 a b,cpR4 a b,cpR5 a b,cpR6 a b,cpR7 a b,trivial⟩ p hp
def gpR0:Ans pr 209 [.ag [.s [82],.b false,kqR,.nils]] (.nils):=zab (n:=1000) (zad pr) (by kernel_rfl)
def gpR1(k0 a0:Int)(p00 p01 p02:F):Ans pr 209 [.ag [.s [82],.b false,kqR,.sl 4 [[v2 k0 a0,p00,p01,p02]]]] (.sl 1 [[.sl 1 [[.i .i64 0]]]]):=zab (n:=1000) (zad pr) (by kernel_rfl)
def gpR2(k0 a0:Int)(p00 p01 p02:F)(k1 a1:Int)(p10 p11 p12:F):Ans pr 209 [.ag [.s [82],.b false,kqR,.sl 4 [[v2 k0 a0,p00,p01,p02],[v2 k1 a1,p10,p11,p12]]]] (.sl 1 [[.sl 1 [[.i .i64 0]]],[.sl 1 [[.i .i64 1]]]]):=zab (n:=1000) (zad pr) (by kernel_rfl)
def gpR3(k0 a0:Int)(p00 p01 p02:F)(k1 a1:Int)(p10 p11 p12:F)(k2 a2:Int)(p20 p21 p22:F):Ans pr 209 [.ag [.s [82],.b false,kqR,.sl 4 [[v2 k0 a0,p00,p01,p02],[v2 k1 a1,p10,p11,p12],[v2 k2 a2,p20,p21,p22]]]] (.sl 1 [[.sl 1 [[.i .i64 0]]],[.sl 1 [[.i .i64 1]]],[.sl 1 [[.i .i64 2]]]]):=zab (n:=1000) (zad pr) (by kernel_rfl)
def gqR(tu:List (List Int×List F))(hn:tu.length<=3)(h:∀t∈tu,TuR t)(hs:Srt (rR tu) tu.length):∃B:List (List Nat),Ans pr 102 [.ag (rlF (rR tu))] (zcm B)/\Ans pr 209 [.ag (rlF (rR tu))] (zcm B)/\B.length<=3/\(∀b∈B,b.length<=3/\∀i∈b,i<tu.length)/\B.flatten.Nodup/\∀b∈B,b≠[]:=by
 match tu,hn with
 |[],_=>
  exact⟨[],grR0,gpR0,by simp,by simp,by simp,by simp⟩
 |[t0],_=>
  obtain⟨hp0,a0,b0,he0,l0,k0⟩ :=h t0 (by simp);obtain⟨x0,y0,z0,hx0,_,_,_⟩ :=zaX _ hp0;obtain⟨v0,w0⟩ :=t0;simp only at he0 hx0;subst he0 hx0;exact⟨[[0]],grR1 a0 b0 x0 y0 z0,gpR1 a0 b0 x0 y0 z0,by simp,by simp,by simp,by simp⟩
 |[t0,t1],_=>
  obtain⟨hp0,a0,b0,he0,l0,k0⟩ :=h t0 (by simp);obtain⟨x0,y0,z0,hx0,_,_,_⟩ :=zaX _ hp0;obtain⟨v0,w0⟩ :=t0;simp only at he0 hx0;subst he0 hx0;obtain⟨hp1,a1,b1,he1,l1,k1⟩ :=h t1 (by simp);obtain⟨x1,y1,z1,hx1,_,_,_⟩ :=zaX _ hp1;obtain⟨v1,w1⟩ :=t1;simp only at he1 hx1;subst he1 hx1;exact⟨[[0],[1]],grR2 a0 b0 x0 y0 z0 a1 b1 x1 y1 z1,gpR2 a0 b0 x0 y0 z0 a1 b1 x1 y1 z1,by simp,by simp,by simp,by simp⟩
 |[t0,t1,t2],_=>
  obtain⟨hp0,a0,b0,he0,l0,k0⟩ :=h t0 (by simp);obtain⟨x0,y0,z0,hx0,_,_,_⟩ :=zaX _ hp0;obtain⟨v0,w0⟩ :=t0;simp only at he0 hx0;subst he0 hx0;obtain⟨hp1,a1,b1,he1,l1,k1⟩ :=h t1 (by simp);obtain⟨x1,y1,z1,hx1,_,_,_⟩ :=zaX _ hp1;obtain⟨v1,w1⟩ :=t1;simp only at he1 hx1;subst he1 hx1;obtain⟨hp2,a2,b2,he2,l2,k2⟩ :=h t2 (by simp);obtain⟨x2,y2,z2,hx2,_,_,_⟩ :=zaX _ hp2;obtain⟨v2,w2⟩ :=t2;simp only at he2 hx2;subst he2 hx2;exact⟨[[0],[1],[2]],grR3 a0 b0 x0 y0 z0 a1 b1 x1 y1 z1 a2 b2 x2 y2 z2,gpR3 a0 b0 x0 y0 z0 a1 b1 x1 y1 z1 a2 b2 x2 y2 z2,by simp,by simp,by simp,by simp⟩
 |_::_::_::_::_,h=>exact absurd h (by simp)
def vqS:Ans pr 206 [.ag [.s [83],.b false,kqS]] (.b true):=zab (n:=1000) (zad pr) (by kernel_rfl)
def wqS0:Ans pr 285 [.ag [.s [83],.b false,kqS],.ag u1] (.b true):=zab (n:=1000) (zad pr) (by kernel_rfl)
def cpS0(a:Int):zav pr (207,[.ag [.s [83],.b false,kqS],.ag (v1 a::u1)],.i .i64 0):=
 zdw (mask:=62165404551223330269422883862387437587934653535242374514464558532636539225308131229696) (n:=400) (l:=[(206,[.ag [.s [83],.b false,kqS]],.b true),(285,[.ag [.s [83],.b false,kqS],.ag u1],.b true)]) ⟨vqS,wqS0,trivial⟩ (by kernel_rfl)
def wqS1:Ans pr 285 [.ag [.s [83],.b false,kqS],.ag u2] (.b true):=zab (n:=1000) (zad pr) (by kernel_rfl)
def cpS1(a:Int):zav pr (207,[.ag [.s [83],.b false,kqS],.ag (v1 a::u2)],.i .i64 0):=
 zdw (mask:=62165404551223330269422883862387437587934653535242374514464558532636539225308131229696) (n:=400) (l:=[(206,[.ag [.s [83],.b false,kqS]],.b true),(285,[.ag [.s [83],.b false,kqS],.ag u2],.b true)]) ⟨vqS,wqS1,trivial⟩ (by kernel_rfl)
def wqS2:Ans pr 285 [.ag [.s [83],.b false,kqS],.ag u3] (.b true):=zab (n:=1000) (zad pr) (by kernel_rfl)
def cpS2(a:Int):zav pr (207,[.ag [.s [83],.b false,kqS],.ag (v1 a::u3)],.i .i64 0):=
 zdw (mask:=62165404551223330269422883862387437587934653535242374514464558532636539225308131229696) (n:=400) (l:=[(206,[.ag [.s [83],.b false,kqS]],.b true),(285,[.ag [.s [83],.b false,kqS],.ag u3],.b true)]) ⟨vqS,wqS2,trivial⟩ (by kernel_rfl)
def wqS3:Ans pr 285 [.ag [.s [83],.b false,kqS],.ag u4] (.b true):=zab (n:=1000) (zad pr) (by kernel_rfl)
def cpS3(a:Int):zav pr (207,[.ag [.s [83],.b false,kqS],.ag (v1 a::u4)],.i .i64 0):=
 zdw (mask:=62165404551223330269422883862387437587934653535242374514464558532636539225308131229696) (n:=400) (l:=[(206,[.ag [.s [83],.b false,kqS]],.b true),(285,[.ag [.s [83],.b false,kqS],.ag u4],.b true)]) ⟨vqS,wqS3,trivial⟩ (by kernel_rfl)
def wqS4:Ans pr 285 [.ag [.s [83],.b false,kqS],.ag u5] (.b true):=zab (n:=1000) (zad pr) (by kernel_rfl)
def cpS4(a:Int):zav pr (207,[.ag [.s [83],.b false,kqS],.ag (v1 a::u5)],.i .i64 0):=
 zdw (mask:=62165404551223330269422883862387437587934653535242374514464558532636539225308131229696) (n:=400) (l:=[(206,[.ag [.s [83],.b false,kqS]],.b true),(285,[.ag [.s [83],.b false,kqS],.ag u5],.b true)]) ⟨vqS,wqS4,trivial⟩ (by kernel_rfl)
def wqS5:Ans pr 285 [.ag [.s [83],.b false,kqS],.ag u0] (.b true):=zab (n:=1000) (zad pr) (by kernel_rfl)
def cpS5(a:Int):zav pr (207,[.ag [.s [83],.b false,kqS],.ag (v1 a::u0)],.i .i64 0):=
 zdw (mask:=62165404551223330269422883862387437587934653535242374514464558532636539225308131229696) (n:=400) (l:=[(206,[.ag [.s [83],.b false,kqS]],.b true),(285,[.ag [.s [83],.b false,kqS],.ag u0],.b true)]) ⟨vqS,wqS5,trivial⟩ (by kernel_rfl)
def wqS6:Ans pr 285 [.ag [.s [83],.b false,kqS],.ag u6] (.b true):=zab (n:=1000) (zad pr) (by kernel_rfl)
def cpS6(a:Int):zav pr (207,[.ag [.s [83],.b false,kqS],.ag (v1 a::u6)],.i .i64 0):=
 zdw (mask:=62165404551223330269422883862387437587934653535242374514464558532636539225308131229696) (n:=400) (l:=[(206,[.ag [.s [83],.b false,kqS]],.b true),(285,[.ag [.s [83],.b false,kqS],.ag u6],.b true)]) ⟨vqS,wqS6,trivial⟩ (by kernel_rfl)
def wqS7:Ans pr 285 [.ag [.s [83],.b false,kqS],.ag u7] (.b true):=zab (n:=1000) (zad pr) (by kernel_rfl)
def cpS7(a:Int):zav pr (207,[.ag [.s [83],.b false,kqS],.ag (v1 a::u7)],.i .i64 0):=
 zdw (mask:=62165404551223330269422883862387437587934653535242374514464558532636539225308131229696) (n:=400) (l:=[(206,[.ag [.s [83],.b false,kqS]],.b true),(285,[.ag [.s [83],.b false,kqS],.ag u7],.b true)]) ⟨vqS,wqS7,trivial⟩ (by kernel_rfl)
def cpS(t:List Int×List F)(h:TuS t):Ans pr 207 [.ag [.s [83],.b false,coS],.ag (tuF t)] (.i .i64 0):=by
 obtain⟨hp,a,he⟩ :=h;obtain⟨vs,p⟩ :=t;simp only at he;subst he;exact allL (P:=fun p=>Ans pr 207 [.ag [.s [83],.b false,coS],.ag (tuF ([a],p))] (.i .i64 0)) (l:=PPl) ⟨cpS0 a,cpS1 a,cpS2 a,cpS3 a,cpS4 a,cpS5 a,cpS6 a,cpS7 a,trivial⟩ p hp
def gpS0:Ans pr 209 [.ag [.s [83],.b false,kqS,.nils]] (.nils):=zab (n:=1000) (zad pr) (by kernel_rfl)
def gpS1(k0:Int)(p00 p01 p02:F):Ans pr 209 [.ag [.s [83],.b false,kqS,.sl 4 [[v1 k0,p00,p01,p02]]]] (.sl 1 [[.sl 1 [[.i .i64 0]]]]):=zab (n:=1000) (zad pr) (by kernel_rfl)
def gpS2(k0:Int)(p00 p01 p02:F)(k1:Int)(p10 p11 p12:F):Ans pr 209 [.ag [.s [83],.b false,kqS,.sl 4 [[v1 k0,p00,p01,p02],[v1 k1,p10,p11,p12]]]] (.sl 1 [[.sl 1 [[.i .i64 0]]],[.sl 1 [[.i .i64 1]]]]):=zab (n:=1000) (zad pr) (by kernel_rfl)
def gpS3(k0:Int)(p00 p01 p02:F)(k1:Int)(p10 p11 p12:F)(k2:Int)(p20 p21 p22:F):Ans pr 209 [.ag [.s [83],.b false,kqS,.sl 4 [[v1 k0,p00,p01,p02],[v1 k1,p10,p11,p12],[v1 k2,p20,p21,p22]]]] (.sl 1 [[.sl 1 [[.i .i64 0]]],[.sl 1 [[.i .i64 1]]],[.sl 1 [[.i .i64 2]]]]):=zab (n:=1000) (zad pr) (by kernel_rfl)
def gqS(tu:List (List Int×List F))(hn:tu.length<=3)(h:∀t∈tu,TuS t)(hs:Srt (rS tu) tu.length):∃B:List (List Nat),Ans pr 102 [.ag (rlF (rS tu))] (zcm B)/\Ans pr 209 [.ag (rlF (rS tu))] (zcm B)/\B.length<=3/\(∀b∈B,b.length<=3/\∀i∈b,i<tu.length)/\B.flatten.Nodup/\∀b∈B,b≠[]:=by
 match tu,hn with
 |[],_=>
  exact⟨[],grS0,gpS0,by simp,by simp,by simp,by simp⟩
 |[t0],_=>
  obtain⟨hp0,a0,he0⟩ :=h t0 (by simp);obtain⟨x0,y0,z0,hx0,_,_,_⟩ :=zaX _ hp0;obtain⟨v0,w0⟩ :=t0;simp only at he0 hx0;subst he0 hx0;exact⟨[[0]],grS1 a0 x0 y0 z0,gpS1 a0 x0 y0 z0,by simp,by simp,by simp,by simp⟩
 |[t0,t1],_=>
  obtain⟨hp0,a0,he0⟩ :=h t0 (by simp);obtain⟨x0,y0,z0,hx0,_,_,_⟩ :=zaX _ hp0;obtain⟨v0,w0⟩ :=t0;simp only at he0 hx0;subst he0 hx0;obtain⟨hp1,a1,he1⟩ :=h t1 (by simp);obtain⟨x1,y1,z1,hx1,_,_,_⟩ :=zaX _ hp1;obtain⟨v1,w1⟩ :=t1;simp only at he1 hx1;subst he1 hx1;exact⟨[[0],[1]],grS2 a0 x0 y0 z0 a1 x1 y1 z1,gpS2 a0 x0 y0 z0 a1 x1 y1 z1,by simp,by simp,by simp,by simp⟩
 |[t0,t1,t2],_=>
  obtain⟨hp0,a0,he0⟩ :=h t0 (by simp);obtain⟨x0,y0,z0,hx0,_,_,_⟩ :=zaX _ hp0;obtain⟨v0,w0⟩ :=t0;simp only at he0 hx0;subst he0 hx0;obtain⟨hp1,a1,he1⟩ :=h t1 (by simp);obtain⟨x1,y1,z1,hx1,_,_,_⟩ :=zaX _ hp1;obtain⟨v1,w1⟩ :=t1;simp only at he1 hx1;subst he1 hx1;obtain⟨hp2,a2,he2⟩ :=h t2 (by simp);obtain⟨x2,y2,z2,hx2,_,_,_⟩ :=zaX _ hp2;obtain⟨v2,w2⟩ :=t2;simp only at he2 hx2;subst he2 hx2;exact⟨[[0],[1],[2]],grS3 a0 x0 y0 z0 a1 x1 y1 z1 a2 x2 y2 z2,gpS3 a0 x0 y0 z0 a1 x1 y1 z1 a2 x2 y2 z2,by simp,by simp,by simp,by simp⟩
 |_::_::_::_::_,h=>exact absurd h (by simp)
def vqK:Ans pr 206 [.ag [.s [75],.b false,kqK]] (.b true):=zab (n:=1000) (zad pr) (by kernel_rfl)
def wqK0:Ans pr 285 [.ag [.s [75],.b false,kqK],.ag u1] (.b true):=zab (n:=1000) (zad pr) (by kernel_rfl)
def cpK0(a b:Int):zav pr (207,[.ag [.s [75],.b false,kqK],.ag (v2 a b::u1)],.i .i64 0):=
 zdw (mask:=62165404551223330269422883862387437587934653535242374514464558532636539225308131229696) (n:=400) (l:=[(206,[.ag [.s [75],.b false,kqK]],.b true),(285,[.ag [.s [75],.b false,kqK],.ag u1],.b true)]) ⟨vqK,wqK0,trivial⟩ (by kernel_rfl)
def wqK1:Ans pr 285 [.ag [.s [75],.b false,kqK],.ag u2] (.b true):=zab (n:=1000) (zad pr) (by kernel_rfl)
def cpK1(a b:Int):zav pr (207,[.ag [.s [75],.b false,kqK],.ag (v2 a b::u2)],.i .i64 0):=
 zdw (mask:=62165404551223330269422883862387437587934653535242374514464558532636539225308131229696) (n:=400) (l:=[(206,[.ag [.s [75],.b false,kqK]],.b true),(285,[.ag [.s [75],.b false,kqK],.ag u2],.b true)]) ⟨vqK,wqK1,trivial⟩ (by kernel_rfl)
def wqK2:Ans pr 285 [.ag [.s [75],.b false,kqK],.ag u3] (.b true):=zab (n:=1000) (zad pr) (by kernel_rfl)
def cpK2(a b:Int):zav pr (207,[.ag [.s [75],.b false,kqK],.ag (v2 a b::u3)],.i .i64 0):=
 zdw (mask:=62165404551223330269422883862387437587934653535242374514464558532636539225308131229696) (n:=400) (l:=[(206,[.ag [.s [75],.b false,kqK]],.b true),(285,[.ag [.s [75],.b false,kqK],.ag u3],.b true)]) ⟨vqK,wqK2,trivial⟩ (by kernel_rfl)
def wqK3:Ans pr 285 [.ag [.s [75],.b false,kqK],.ag u4] (.b true):=zab (n:=1000) (zad pr) (by kernel_rfl)
def cpK3(a b:Int):zav pr (207,[.ag [.s [75],.b false,kqK],.ag (v2 a b::u4)],.i .i64 0):=
 zdw (mask:=62165404551223330269422883862387437587934653535242374514464558532636539225308131229696) (n:=400) (l:=[(206,[.ag [.s [75],.b false,kqK]],.b true),(285,[.ag [.s [75],.b false,kqK],.ag u4],.b true)]) ⟨vqK,wqK3,trivial⟩ (by kernel_rfl)
def wqK4:Ans pr 285 [.ag [.s [75],.b false,kqK],.ag u5] (.b true):=zab (n:=1000) (zad pr) (by kernel_rfl)
def cpK4(a b:Int):zav pr (207,[.ag [.s [75],.b false,kqK],.ag (v2 a b::u5)],.i .i64 0):=
 zdw (mask:=62165404551223330269422883862387437587934653535242374514464558532636539225308131229696) (n:=400) (l:=[(206,[.ag [.s [75],.b false,kqK]],.b true),(285,[.ag [.s [75],.b false,kqK],.ag u5],.b true)]) ⟨vqK,wqK4,trivial⟩ (by kernel_rfl)
def wqK5:Ans pr 285 [.ag [.s [75],.b false,kqK],.ag u0] (.b true):=zab (n:=1000) (zad pr) (by kernel_rfl)
def cpK5(a b:Int):zav pr (207,[.ag [.s [75],.b false,kqK],.ag (v2 a b::u0)],.i .i64 0):=
 zdw (mask:=62165404551223330269422883862387437587934653535242374514464558532636539225308131229696) (n:=400) (l:=[(206,[.ag [.s [75],.b false,kqK]],.b true),(285,[.ag [.s [75],.b false,kqK],.ag u0],.b true)]) ⟨vqK,wqK5,trivial⟩ (by kernel_rfl)
def wqK6:Ans pr 285 [.ag [.s [75],.b false,kqK],.ag u6] (.b true):=zab (n:=1000) (zad pr) (by kernel_rfl)
def cpK6(a b:Int):zav pr (207,[.ag [.s [75],.b false,kqK],.ag (v2 a b::u6)],.i .i64 0):=
 zdw (mask:=62165404551223330269422883862387437587934653535242374514464558532636539225308131229696) (n:=400) (l:=[(206,[.ag [.s [75],.b false,kqK]],.b true),(285,[.ag [.s [75],.b false,kqK],.ag u6],.b true)]) ⟨vqK,wqK6,trivial⟩ (by kernel_rfl)
def wqK7:Ans pr 285 [.ag [.s [75],.b false,kqK],.ag u7] (.b true):=zab (n:=1000) (zad pr) (by kernel_rfl)
def cpK7(a b:Int):zav pr (207,[.ag [.s [75],.b false,kqK],.ag (v2 a b::u7)],.i .i64 0):=
 zdw (mask:=62165404551223330269422883862387437587934653535242374514464558532636539225308131229696) (n:=400) (l:=[(206,[.ag [.s [75],.b false,kqK]],.b true),(285,[.ag [.s [75],.b false,kqK],.ag u7],.b true)]) ⟨vqK,wqK7,trivial⟩ (by kernel_rfl)
def cpK(t:List Int×List F)(h:TuK t):Ans pr 207 [.ag [.s [75],.b false,coK],.ag (tuF t)] (.i .i64 0):=by
 obtain⟨hp,a,b,he,_,_⟩ :=h;obtain⟨vs,p⟩ :=t;simp only at he;subst he;exact allL (P:=fun p=>Ans pr 207 [.ag [.s [75],.b false,coK],.ag (tuF ([a,b],p))] (.i .i64 0)) (l:=PPl) ⟨cpK0 a b,cpK1 a b,cpK2 a b,cpK3 a b,cpK4 a b,cpK5 a b,cpK6 a b,cpK7 a b,trivial⟩ p hp
def gpK0:Ans pr 209 [.ag [.s [75],.b false,kqK,.nils]] (.nils):=zab (n:=1000) (zad pr) (by kernel_rfl)
def gpK1(k0 a0:Int)(p00 p01 p02:F):Ans pr 209 [.ag [.s [75],.b false,kqK,.sl 4 [[v2 k0 a0,p00,p01,p02]]]] (.sl 1 [[.sl 1 [[.i .i64 0]]]]):=zab (n:=1000) (zad pr) (by kernel_rfl)
def zDs(a0:Int)(p00 p01 p02:F)(a1:Int)(p10 p11 p12:F):Ans pr 209 [.ag [.s [75],.b false,kqK,.sl 4 [[v2 1 a0,p00,p01,p02],[v2 1 a1,p10,p11,p12]]]] (.sl 1 [[.sl 1 [[.i .i64 0],[.i .i64 1]]]]):=zab (n:=1000) (zad pr) (by kernel_rfl)
def zDt(a0:Int)(p00 p01 p02:F)(a1:Int)(p10 p11 p12:F):Ans pr 209 [.ag [.s [75],.b false,kqK,.sl 4 [[v2 1 a0,p00,p01,p02],[v2 2 a1,p10,p11,p12]]]] (.sl 1 [[.sl 1 [[.i .i64 0]]],[.sl 1 [[.i .i64 1]]]]):=zab (n:=1000) (zad pr) (by kernel_rfl)
def zDv(a0:Int)(p00 p01 p02:F)(a1:Int)(p10 p11 p12:F):Ans pr 209 [.ag [.s [75],.b false,kqK,.sl 4 [[v2 1 a0,p00,p01,p02],[v2 3 a1,p10,p11,p12]]]] (.sl 1 [[.sl 1 [[.i .i64 0]]],[.sl 1 [[.i .i64 1]]]]):=zab (n:=1000) (zad pr) (by kernel_rfl)
def zDx(a0:Int)(p00 p01 p02:F)(a1:Int)(p10 p11 p12:F):Ans pr 209 [.ag [.s [75],.b false,kqK,.sl 4 [[v2 2 a0,p00,p01,p02],[v2 2 a1,p10,p11,p12]]]] (.sl 1 [[.sl 1 [[.i .i64 0],[.i .i64 1]]]]):=zab (n:=1000) (zad pr) (by kernel_rfl)
def zDy(a0:Int)(p00 p01 p02:F)(a1:Int)(p10 p11 p12:F):Ans pr 209 [.ag [.s [75],.b false,kqK,.sl 4 [[v2 2 a0,p00,p01,p02],[v2 3 a1,p10,p11,p12]]]] (.sl 1 [[.sl 1 [[.i .i64 0]]],[.sl 1 [[.i .i64 1]]]]):=zab (n:=1000) (zad pr) (by kernel_rfl)
def zDz(a0:Int)(p00 p01 p02:F)(a1:Int)(p10 p11 p12:F):Ans pr 209 [.ag [.s [75],.b false,kqK,.sl 4 [[v2 3 a0,p00,p01,p02],[v2 3 a1,p10,p11,p12]]]] (.sl 1 [[.sl 1 [[.i .i64 0],[.i .i64 1]]]]):=zab (n:=1000) (zad pr) (by kernel_rfl)
def zyS(a0:Int)(p00 p01 p02:F)(a1:Int)(p10 p11 p12:F)(a2:Int)(p20 p21 p22:F):Ans pr 209 [.ag [.s [75],.b false,kqK,.sl 4 [[v2 1 a0,p00,p01,p02],[v2 1 a1,p10,p11,p12],[v2 1 a2,p20,p21,p22]]]] (.sl 1 [[.sl 1 [[.i .i64 0],[.i .i64 1],[.i .i64 2]]]]):=zab (n:=1000) (zad pr) (by kernel_rfl)
def zyT(a0:Int)(p00 p01 p02:F)(a1:Int)(p10 p11 p12:F)(a2:Int)(p20 p21 p22:F):Ans pr 209 [.ag [.s [75],.b false,kqK,.sl 4 [[v2 1 a0,p00,p01,p02],[v2 1 a1,p10,p11,p12],[v2 2 a2,p20,p21,p22]]]] (.sl 1 [[.sl 1 [[.i .i64 0],[.i .i64 1]]],[.sl 1 [[.i .i64 2]]]]):=zab (n:=1000) (zad pr) (by kernel_rfl)
def zyU(a0:Int)(p00 p01 p02:F)(a1:Int)(p10 p11 p12:F)(a2:Int)(p20 p21 p22:F):Ans pr 209 [.ag [.s [75],.b false,kqK,.sl 4 [[v2 1 a0,p00,p01,p02],[v2 1 a1,p10,p11,p12],[v2 3 a2,p20,p21,p22]]]] (.sl 1 [[.sl 1 [[.i .i64 0],[.i .i64 1]]],[.sl 1 [[.i .i64 2]]]]):=zab (n:=1000) (zad pr) (by kernel_rfl)
def zyV(a0:Int)(p00 p01 p02:F)(a1:Int)(p10 p11 p12:F)(a2:Int)(p20 p21 p22:F):Ans pr 209 [.ag [.s [75],.b false,kqK,.sl 4 [[v2 1 a0,p00,p01,p02],[v2 2 a1,p10,p11,p12],[v2 2 a2,p20,p21,p22]]]] (.sl 1 [[.sl 1 [[.i .i64 0]]],[.sl 1 [[.i .i64 1],[.i .i64 2]]]]):=zab (n:=1000) (zad pr) (by kernel_rfl)
def zyW(a0:Int)(p00 p01 p02:F)(a1:Int)(p10 p11 p12:F)(a2:Int)(p20 p21 p22:F):Ans pr 209 [.ag [.s [75],.b false,kqK,.sl 4 [[v2 1 a0,p00,p01,p02],[v2 2 a1,p10,p11,p12],[v2 3 a2,p20,p21,p22]]]] (.sl 1 [[.sl 1 [[.i .i64 0]]],[.sl 1 [[.i .i64 1]]],[.sl 1 [[.i .i64 2]]]]):=zab (n:=1000) (zad pr) (by kernel_rfl)
def zyX(a0:Int)(p00 p01 p02:F)(a1:Int)(p10 p11 p12:F)(a2:Int)(p20 p21 p22:F):Ans pr 209 [.ag [.s [75],.b false,kqK,.sl 4 [[v2 1 a0,p00,p01,p02],[v2 3 a1,p10,p11,p12],[v2 3 a2,p20,p21,p22]]]] (.sl 1 [[.sl 1 [[.i .i64 0]]],[.sl 1 [[.i .i64 1],[.i .i64 2]]]]):=zab (n:=1000) (zad pr) (by kernel_rfl)
def zyZ(a0:Int)(p00 p01 p02:F)(a1:Int)(p10 p11 p12:F)(a2:Int)(p20 p21 p22:F):Ans pr 209 [.ag [.s [75],.b false,kqK,.sl 4 [[v2 2 a0,p00,p01,p02],[v2 2 a1,p10,p11,p12],[v2 2 a2,p20,p21,p22]]]] (.sl 1 [[.sl 1 [[.i .i64 0],[.i .i64 1],[.i .i64 2]]]]):=zab (n:=1000) (zad pr) (by kernel_rfl)
def zy1(a0:Int)(p00 p01 p02:F)(a1:Int)(p10 p11 p12:F)(a2:Int)(p20 p21 p22:F):Ans pr 209 [.ag [.s [75],.b false,kqK,.sl 4 [[v2 2 a0,p00,p01,p02],[v2 2 a1,p10,p11,p12],[v2 3 a2,p20,p21,p22]]]] (.sl 1 [[.sl 1 [[.i .i64 0],[.i .i64 1]]],[.sl 1 [[.i .i64 2]]]]):=zab (n:=1000) (zad pr) (by kernel_rfl)
def zy2(a0:Int)(p00 p01 p02:F)(a1:Int)(p10 p11 p12:F)(a2:Int)(p20 p21 p22:F):Ans pr 209 [.ag [.s [75],.b false,kqK,.sl 4 [[v2 2 a0,p00,p01,p02],[v2 3 a1,p10,p11,p12],[v2 3 a2,p20,p21,p22]]]] (.sl 1 [[.sl 1 [[.i .i64 0]]],[.sl 1 [[.i .i64 1],[.i .i64 2]]]]):=zab (n:=1000) (zad pr) (by kernel_rfl)
def zy3(a0:Int)(p00 p01 p02:F)(a1:Int)(p10 p11 p12:F)(a2:Int)(p20 p21 p22:F):Ans pr 209 [.ag [.s [75],.b false,kqK,.sl 4 [[v2 3 a0,p00,p01,p02],[v2 3 a1,p10,p11,p12],[v2 3 a2,p20,p21,p22]]]] (.sl 1 [[.sl 1 [[.i .i64 0],[.i .i64 1],[.i .i64 2]]]]):=zab (n:=1000) (zad pr) (by kernel_rfl)
def gqK(tu:List (List Int×List F))(hn:tu.length<=3)(h:∀t∈tu,TuK t)(hs:Srt (rK tu) tu.length):∃B:List (List Nat),Ans pr 102 [.ag (rlF (rK tu))] (zcm B)/\Ans pr 209 [.ag (rlF (rK tu))] (zcm B)/\B.length<=3/\(∀b∈B,b.length<=3/\∀i∈b,i<tu.length)/\B.flatten.Nodup/\∀b∈B,b≠[]:=by
 match tu,hn with
 |[],_=>
  exact⟨[],grK0,gpK0,by simp,by simp,by simp,by simp⟩
 |[t0],_=>
  obtain⟨hp0,a0,b0,he0,l0,k0⟩ :=h t0 (by simp);obtain⟨x0,y0,z0,hx0,_,_,_⟩ :=zaX _ hp0;obtain⟨v0,w0⟩ :=t0;simp only at he0 hx0;subst he0 hx0;exact⟨[[0]],grK1 a0 b0 x0 y0 z0,gpK1 a0 b0 x0 y0 z0,by simp,by simp,by simp,by simp⟩
 |[t0,t1],_=>
  obtain⟨hp0,a0,b0,he0,l0,k0⟩ :=h t0 (by simp);obtain⟨x0,y0,z0,hx0,_,_,_⟩ :=zaX _ hp0;obtain⟨v0,w0⟩ :=t0;simp only at he0 hx0;subst he0 hx0;obtain⟨hp1,a1,b1,he1,l1,k1⟩ :=h t1 (by simp);obtain⟨x1,y1,z1,hx1,_,_,_⟩ :=zaX _ hp1;obtain⟨v1,w1⟩ :=t1;simp only at he1 hx1;subst he1 hx1;have hs0:cmpL [a0,b0] [a1,b1]<0:=hs 0 (by simp[rK]) (by simp);have q0:a0=1\/a0=2\/a0=3:=by omega
  have q1:a1=1\/a1=2\/a1=3:=by omega
  rcases q0 with rfl|rfl|rfl<;>rcases q1 with rfl|rfl|rfl
  .exact⟨[[0,1]],zuq b0 x0 y0 z0 b1 x1 y1 z1,zDs b0 x0 y0 z0 b1 x1 y1 z1,by simp,by simp,by simp,by simp⟩
  .exact⟨[[0],[1]],zut b0 x0 y0 z0 b1 x1 y1 z1,zDt b0 x0 y0 z0 b1 x1 y1 z1,by simp,by simp,by simp,by simp⟩
  .exact⟨[[0],[1]],zuu b0 x0 y0 z0 b1 x1 y1 z1,zDv b0 x0 y0 z0 b1 x1 y1 z1,by simp,by simp,by simp,by simp⟩
  .exact absurd hs0 (by simp[cmpL,zcn])
  .exact⟨[[0,1]],zuv b0 x0 y0 z0 b1 x1 y1 z1,zDx b0 x0 y0 z0 b1 x1 y1 z1,by simp,by simp,by simp,by simp⟩
  .exact⟨[[0],[1]],zuw b0 x0 y0 z0 b1 x1 y1 z1,zDy b0 x0 y0 z0 b1 x1 y1 z1,by simp,by simp,by simp,by simp⟩
  .exact absurd hs0 (by simp[cmpL,zcn])
  .exact absurd hs0 (by simp[cmpL,zcn])
  .exact⟨[[0,1]],zuy b0 x0 y0 z0 b1 x1 y1 z1,zDz b0 x0 y0 z0 b1 x1 y1 z1,by simp,by simp,by simp,by simp⟩
 |[t0,t1,t2],_=>
  obtain⟨hp0,a0,b0,he0,l0,k0⟩ :=h t0 (by simp);obtain⟨x0,y0,z0,hx0,_,_,_⟩ :=zaX _ hp0;obtain⟨v0,w0⟩ :=t0;simp only at he0 hx0;subst he0 hx0;obtain⟨hp1,a1,b1,he1,l1,k1⟩ :=h t1 (by simp);obtain⟨x1,y1,z1,hx1,_,_,_⟩ :=zaX _ hp1;obtain⟨v1,w1⟩ :=t1;simp only at he1 hx1;subst he1 hx1;obtain⟨hp2,a2,b2,he2,l2,k2⟩ :=h t2 (by simp);obtain⟨x2,y2,z2,hx2,_,_,_⟩ :=zaX _ hp2;obtain⟨v2,w2⟩ :=t2;simp only at he2 hx2;subst he2 hx2;have hs0:cmpL [a0,b0] [a1,b1]<0:=hs 0 (by simp[rK]) (by simp);have hs1:cmpL [a1,b1] [a2,b2]<0:=hs 1 (by simp[rK]) (by simp);have q0:a0=1\/a0=2\/a0=3:=by omega
  have q1:a1=1\/a1=2\/a1=3:=by omega
  have q2:a2=1\/a2=2\/a2=3:=by omega
  rcases q0 with rfl|rfl|rfl<;>rcases q1 with rfl|rfl|rfl<;>rcases q2 with rfl|rfl|rfl
  .exact⟨[[0,1,2]],zpi b0 x0 y0 z0 b1 x1 y1 z1 b2 x2 y2 z2,zyS b0 x0 y0 z0 b1 x1 y1 z1 b2 x2 y2 z2,by simp,by simp,by simp,by simp⟩
  .exact⟨[[0,1],[2]],zpk b0 x0 y0 z0 b1 x1 y1 z1 b2 x2 y2 z2,zyT b0 x0 y0 z0 b1 x1 y1 z1 b2 x2 y2 z2,by simp,by simp,by simp,by simp⟩
  .exact⟨[[0,1],[2]],zpm b0 x0 y0 z0 b1 x1 y1 z1 b2 x2 y2 z2,zyU b0 x0 y0 z0 b1 x1 y1 z1 b2 x2 y2 z2,by simp,by simp,by simp,by simp⟩
  .exact absurd hs1 (by simp[cmpL,zcn])
  .exact⟨[[0],[1,2]],zpp b0 x0 y0 z0 b1 x1 y1 z1 b2 x2 y2 z2,zyV b0 x0 y0 z0 b1 x1 y1 z1 b2 x2 y2 z2,by simp,by simp,by simp,by simp⟩
  .exact⟨[[0],[1],[2]],zpq b0 x0 y0 z0 b1 x1 y1 z1 b2 x2 y2 z2,zyW b0 x0 y0 z0 b1 x1 y1 z1 b2 x2 y2 z2,by simp,by simp,by simp,by simp⟩
  .exact absurd hs1 (by simp[cmpL,zcn])
  .exact absurd hs1 (by simp[cmpL,zcn])
  .exact⟨[[0],[1,2]],zpr b0 x0 y0 z0 b1 x1 y1 z1 b2 x2 y2 z2,zyX b0 x0 y0 z0 b1 x1 y1 z1 b2 x2 y2 z2,by simp,by simp,by simp,by simp⟩
  .exact absurd hs0 (by simp[cmpL,zcn])
  .exact absurd hs0 (by simp[cmpL,zcn])
  .exact absurd hs0 (by simp[cmpL,zcn])
  .exact absurd hs1 (by simp[cmpL,zcn])
  .exact⟨[[0,1,2]],zpu b0 x0 y0 z0 b1 x1 y1 z1 b2 x2 y2 z2,zyZ b0 x0 y0 z0 b1 x1 y1 z1 b2 x2 y2 z2,by simp,by simp,by simp,by simp⟩
  .exact⟨[[0,1],[2]],zpv b0 x0 y0 z0 b1 x1 y1 z1 b2 x2 y2 z2,zy1 b0 x0 y0 z0 b1 x1 y1 z1 b2 x2 y2 z2,by simp,by simp,by simp,by simp⟩
  .exact absurd hs1 (by simp[cmpL,zcn])
  .exact absurd hs1 (by simp[cmpL,zcn])
  .exact⟨[[0],[1,2]],zpx b0 x0 y0 z0 b1 x1 y1 z1 b2 x2 y2 z2,zy2 b0 x0 y0 z0 b1 x1 y1 z1 b2 x2 y2 z2,by simp,by simp,by simp,by simp⟩
  .exact absurd hs0 (by simp[cmpL,zcn])
  .exact absurd hs0 (by simp[cmpL,zcn])
  .exact absurd hs0 (by simp[cmpL,zcn])
  .exact absurd hs0 (by simp[cmpL,zcn])
  .exact absurd hs0 (by simp[cmpL,zcn])
  .exact absurd hs0 (by simp[cmpL,zcn])
  .exact absurd hs1 (by simp[cmpL,zcn])
  .exact absurd hs1 (by simp[cmpL,zcn])
  .exact⟨[[0,1,2]],zpy b0 x0 y0 z0 b1 x1 y1 z1 b2 x2 y2 z2,zy3 b0 x0 y0 z0 b1 x1 y1 z1 b2 x2 y2 z2,by simp,by simp,by simp,by simp⟩
 |_::_::_::_::_,h=>exact absurd h (by simp)
def vqC:Ans pr 206 [.ag [.s [67],.b true,kqR]] (.b true):=zab (n:=1000) (zad pr) (by kernel_rfl)
def wqC4:Ans pr 285 [.ag [.s [67],.b true,kqR],.ag u5] (.b true):=zab (n:=1000) (zad pr) (by kernel_rfl)
def cpC4(a b:Int):zav pr (207,[.ag [.s [67],.b true,kqR],.ag (v2 a b::u5)],.i .i64 0):=
 zdw (mask:=62165404551223330269422883862387437587934653535242374514464558532636539225308131229696) (n:=400) (l:=[(206,[.ag [.s [67],.b true,kqR]],.b true),(285,[.ag [.s [67],.b true,kqR],.ag u5],.b true)]) ⟨vqC,wqC4,trivial⟩ (by kernel_rfl)
def cpC(t:List Int×List F)(h:TuC t):Ans pr 207 [.ag [.s [67],.b true,coC],.ag (tuF t)] (.i .i64 0):=by
 obtain⟨hp,a,b,he,e2⟩ :=h;obtain⟨vs,p⟩ :=t;simp only at he;subst he;simp only at e2;subst e2;exact cpC4 a b
def gpC(x:F):Ans pr 209 [.ag [.s [67],.b true,kqR,x]] .nils:=zab (n:=1000) (zad pr) (by kernel_rfl)
def gqC(tu:List (List Int×List F)):∃B:List (List Nat),Ans pr 102 [.ag (rlF (rC tu))] (zcm B)/\Ans pr 209 [.ag (rlF (rC tu))] (zcm B)/\B.length<=3/\(∀b∈B,b.length<=3/\∀i∈b,i<tu.length)/\B.flatten.Nodup/\(∀b∈B,b≠[])/\B=[]:=⟨[],grC _,gpC _,by simp,by simp,by simp,by simp,rfl⟩
end Go.Proofs.YtlinkhjnihjbaaaGreatDoor
end
section
namespace Go.Proofs.YtlinkhjnihjbaaaGreatDoor
open Go Go.Vse Go.Vse.Sm
def zc3(l:List Rl):F:=slc 4 (l.map rlF)
def zkW(l:List Rl):(zc3 l).d= .f (zc3 l):=zgb ..
def zeM(l:List Rl):zcE (.f (zc3 l))=some l.length:=by simp[zc3,zfb]
def zj9(l:List Rl)(n:Nat):iaB 4 (.f (zc3 l)) n=(l[n]?).map fun r=>D.fptr (rlF r):=by simp[zc3,zfC,Z67]
def zaW(l:List (List Int×List F)):F:=slc 4 (l.map tuF)
def zd5(l:List (List Int×List F)):(zaW l).d= .f (zaW l):=zgb ..
def zfc(l:List (List Int×List F)):zcE (.f (zaW l))=some l.length:=by simp[zaW,zfb]
def zfZ(l:List (List Int×List F))(n:Nat):iaB 4 (.f (zaW l)) n=(l[n]?).map fun t=>D.fptr (tuF t):=by simp[zaW,zfC,Z67]
def rlE(r:Rl):rlF r=[.s r.nm,.b r.ce,r.co,zaW r.tu]:=rfl
def zer(n:Nat):(frN n).d= .f (frN n):=by cases n<;>rfl
def zeQ(n:Nat):(D.f (frN n)).cells=some [.f (frN n)]:=by cases n<;>rfl
def frE(s:Nat×Nat):fr s=[.b false,frN s.1,frN s.2]:=rfl
def sN(l:List (Nat×Nat)):Nat×Nat:=l.foldl adN (0,1)
def zkd(l:List (Nat×Nat))(p:Nat×Nat):sN (l++[p])=adN (sN l) p:=by simp[sN]
theorem sN_D:∀l:List (Nat×Nat),l.length<=3->(∀p∈l,p∈PN)->sN l∈Dl l.length
 |[],_,_=>Z31.2 rfl
 |[p],_,h=>ziQ (k:=0) (by omega) (Z31.2 rfl) (h p (by simp))
 |[p,q],_,h=>ziQ (k:=1) (by omega) (ziQ (k:=0) (by omega) (Z31.2 rfl) (h p (by simp))) (h q (by simp))
 |[p,q,r],_,h=>ziQ (k:=2) (by omega) (ziQ (k:=1) (by omega) (ziQ (k:=0) (by omega) (Z31.2 rfl) (h p (by simp))) (h q (by simp))) (h r (by simp))
 |_::_::_::_::_,h,_=>absurd h (by simp)
def zvc(l:List (Nat×Nat))(h:l.length<=2)(hp:∀p∈l,p∈PN):sN l∈DA:=dl_A (by omega) (sN_D l (by omega) hp)
def zn6(l:List (Nat×Nat))(h:l.length<=3)(hp:∀p∈l,p∈PN):sN l∈DI:=zDl (sN_D l h hp)
def Bks(r:Rl)(b:List Nat)(ns:List (Nat×Nat)):Prop:=ns.length=b.length/\∀k (hk:k<b.length) (hn:k<ns.length),∃T,r.tu[b[k]]? =some T/\T.2=fr ns[k]/\ns[k]∈PN
def Bks.mem{r:Rl}{b:List Nat}{ns:List (Nat×Nat)}(h:Bks r b ns):∀p∈ns,p∈PN:=fun p hp=>by
 obtain⟨k,hk,rfl⟩ :=Z130 hp;obtain⟨T,-,-,h3⟩ :=h.2 k (by rw[<-h.1];exact hk) hk;exact h3
theorem zAp(r:Rl)(hp:∀t∈r.tu,PPp t.2):∀b:List Nat,(∀i∈b,i<r.tu.length)->∃ns,Bks r b ns
 |[],_=>⟨[],rfl,fun k hk=>by simp at hk⟩
 |i::b,h=>by
  obtain⟨ns,h1,h2⟩ :=zAp r hp b fun j hj=>h j (by simp[hj])
  have hi:=h i (by simp);obtain⟨n,hn,he⟩ :=ztj (hp _ (Z1 hi));refine⟨n::ns,by simp[h1],fun k hk hk2=> ?_⟩;cases k with
  |zero=>exact⟨_,Z0 hi,he,hn⟩
  |succ k=>exact h2 k (by simpa using hk) (by simpa using hk2)
def J104(r:Rl)(b:List Nat)(ns:List (Nat×Nat))(n:Nat)(s:St):Prop:=(s.tm.get 1=some (.f (ixF b))/\s.tm.get 2=some (.ptr 0 4 0 0)/\s.tm.get 4=some (.ptr 1 3 0 0)/\s.tm.get 5=some (.ptr 2 3 0 0)/\s.tm.get 6=some (.f (.i .i64 n))/\s.h.get 0=some (.arr 4 0 [[.f (.s r.nm),.f (.b r.ce),.f r.co,.f (zaW r.tu)]])/\s.h.get 1=some (.arr 3 0 [[.f (.b false),.f .nils,.f .nils]])/\s.h.get 2=some (.arr 3 0 [[.f (.b false),.f (frN (sN (ns.take n)).1),.f (frN (sN (ns.take n)).2)]]))/\3<=s.c
def zHz(r:Rl)(hco:r.co.d= .f r.co)(hcc:(D.f r.co).cells=some [.f r.co])(b:List Nat)(ns:List (Nat×Nat))(hb:b.length<=3)(h:Bks r b ns):Ans pr 104 [.ag (rlF r),ixF b] (.ag (fr (sN ns))):=by
 obtain⟨hl,hB⟩ :=id h;refine zb6 zFa ?_;have fi0x:Ans pr 35 [.i .i64 0] (.ag [.b false,.nils,.sl 1 [[.i .u32 1]]]):=fi0;have q0:=fun k=>zaj (k:=k) fi0x
 have hd:(zaW r.tu).d= .f (zaW r.tu):=zd5 _;simp only[zun,rU];simp[rW,st0,zax,rlE,hco,hd,q0,zlR];refine zcz b.length (J104 r b ns) (fun e s=>e= .exit 0/\J104 r b ns b.length s) ?_ ?_ _ ⟨⟨?_,?_,?_,?_,?_,?_,?_,?_⟩,?_⟩ ?_
 .rintro n s hn ⟨⟨h1,h2,h4,h5,h6,g0,g1,g2⟩,hc⟩;have hw:=zaK n (by omega);have hnn:n<ns.length:=by omega
  obtain⟨T,hT,hT2,hm⟩ :=hB n hn hnn;have hs:sN (ns.take (n+1))=adN (sN (ns.take n)) ns[n]:=by
   rw[Z105,Z0 hnn];exact zkd _ _
  have hA:UA (sN (ns.take n)) ns[n]:=allL (allL uA _ (zvc _ (by rw[Z41];omega) fun p hp=>h.mem p (Z13 hp))) _ hm;unfold UA at hA;rw[<-hs]at hA;have htu:tuF T=[valsF T.1,.b false,frN (ns[n]).1,frN (ns[n]).2]:=by unfold tuF;rw[hT2];rfl
  have q1:=fun k=>zaj (k:=k) hA
  simp only[frE]at q1;have hxi:b[n]? =some b[n]:=Z0 hn;generalize hI:b[n]=i at hxi hT;generalize hM:ns[n]=m at htu q1;generalize sN (ns.take n)=s1 at g2 q1;generalize hS2:sN (ns.take (n+1))=s2 at q1;have hix:ixF b= .sl 1 (b.map fun i=>[.i .i64 (i:Nat)]):=rfl;have c0:0<s.c:=by omega
  have c1:1<s.c:=by omega
  have c2:2<s.c:=by omega
  simp[rW,h1,h2,h4,h5,h6,g0,g1,g2,hn,zgS];refine zaM ?_;simp[rW,h1,h2,h4,h5,h6,g0,g1,g2,hn,hix,hxi,hI,zfZ,hT,htu,zer,zeQ,q1,c2,hw];refine⟨⟨?_,?_,?_,?_,?_,?_,?_,?_⟩,?_⟩
  all_goals simp[rW,h1,h2,h4,h5,h6,g0,g1,g2,hw,hc,hS2]
 .rintro s ⟨⟨h1,h2,h4,h5,h6,g0,g1,g2⟩,hc⟩;simp[rW,h1,h6,zgS];exact⟨⟨by simp[rW,h1],by simp[rW,h2],by simp[rW,h4],by simp[rW,h5],by simp[rW,h6],by simp[rW,g0],by simp[rW,g1],by simp[rW,g2]⟩,by simp[rW,hc]⟩
 .simp[rW]
 .simp[rW]
 .simp[rW]
 .simp[rW]
 .simp[rW]
 .simp[rW]
 .simp[rW]
 .simp[rW];exact⟨rfl,rfl⟩
 .simp[rW]
 .rintro e s ⟨rfl,⟨h1,h2,h4,h5,h6,g0,g1,g2⟩,hc⟩;have c1:1<s.c:=by omega
  rw[Z11 (by omega)]at g2;simp[rW,h4,h5,g1,g2,c1,zer,zeQ];rfl
def fn211:pr.fn 211=some zyA:=by kernel_rfl
def eN:∀p∈PN,adN (0,1) p=p:=by decide
def eM0:(DA.all fun s=>PN.all fun p=>!le1 (adN s p)||le1 s)=true:=by kernel_rfl
def eM{s p:Nat×Nat}(hs:s∈DA)(hp:p∈PN)(h:le1 (adN s p)=true):le1 s=true:=by
 have:=Z50.1 (Z50.1 eM0 s hs) p hp;rw[h]at this;simpa using this
def zGS{l:List (Nat×Nat)}(hl:l.length<=3)(h:∀p∈l,p∈PN)(h1:le1 (sN l)=true):∀k,le1 (sN (l.take k))=true:=by
 have step:∀k,k<l.length->le1 (sN (l.take (k+1)))=true->le1 (sN (l.take k))=true:=fun k hk hh=>by
  rw[Z105,Z0 hk]at hh;have e:sN (l.take k++(some l[k]).toList)=adN (sN (l.take k)) l[k]:=zkd _ _;rw[e]at hh;exact eM (zvc _ (by rw[Z41];omega) fun p hp=>h p (Z13 hp)) (h _ (Z1 hk)) hh
 intro k
 by_cases hk:l.length<=k
 .rw[Z11 hk];exact h1
 .have key:∀j,j<=l.length->le1 (sN (l.take (l.length - j)))=true:=by
   intro j
   induction j with
   |zero=>intro _;rw[Nat.sub_zero,Z7];exact h1
   |succ j ih=>
    intro hj;refine step _ (by omega) ?_;rw[show l.length - (j+1)+1=l.length - j by omega];exact ih (by omega)
  have:=key (l.length - k) (by omega);rw[show l.length - (l.length - k)=k by omega]at this;exact this
def tP(ns:List (Nat×Nat)):Nat->List F
 |0=>zP
 |n+1=>fr (sN (ns.take (n+1)))
def J211(r:Rl)(b:List Nat)(ns:List (Nat×Nat))(n:Nat)(s:St):Prop:=(s.tm.get 2=some (.ptr 0 4 0 0)/\s.tm.get 4=some (.ptr 1 3 0 0)/\s.tm.get 5=some (.ptr 2 3 0 0)/\s.tm.get 8=some (.f (ixF b))/\s.tm.get 9=some (.f (.i .i64 b.length))/\s.tm.get 10=some (.f (.i .i64 n))/\s.h.get 0=some (.arr 4 0 [[.f (.s r.nm),.f (.b r.ce),.f r.co,.f (zaW r.tu)]])/\s.h.get 1=some (.arr 3 0 [[.f (.b false),.f .nils,.f .nils]])/\s.h.get 2=some (.arr 3 0 [(tP ns n).map D.f]))/\3<=s.c
def zEk(ns:List (Nat×Nat))(n:Nat):∃x y,tP ns n=[.b false,x,y]/\x.d= .f x/\y.d= .f y/\(D.f x).cells=some [.f x]/\(D.f y).cells=some [.f y]:=by
 cases n with
 |zero=>exact⟨.nils,.nils,rfl,rfl,rfl,rfl,rfl⟩
 |succ n=>exact⟨_,_,rfl,zer _,zer _,zeQ _,zeQ _⟩
def zLV{r:Rl}{b:List Nat}{ns:List (Nat×Nat)}(hb:b.length<=3)(h:Bks r b ns)(hle:le1 (sN ns)=true){n:Nat}(hn:n<ns.length):Ans pr 76 [.ag (tP ns n),.ag (fr ns[n])] (.ag (tP ns (n+1))):=by
 have hm:=h.mem _ (Z1 hn);have hln:ns.length<=3:=by have:=h.1;omega
 have hs:sN (ns.take (n+1))=adN (sN (ns.take n)) ns[n]:=by
  rw[Z105,Z0 hn];exact zkd _ _
 cases n with
 |zero=>
  have:tP ns (0+1)=fr ns[0]:=by
   show fr (sN (ns.take (0+1)))=_;rw[hs];exact congrArg fr (eN _ hm)
  rw[this];exact (allL uZ _ hm).1
 |succ n=>
  have h1:=zGS hln h.mem hle (n+1+1);rw[hs]at h1;have:=allL (allL uB _ (zvc _ (by rw[Z41];omega) fun p hp=>h.mem p (Z13 hp))) _ hm h1;unfold UB at this;rw[<-hs]at this;exact this
def zHA(r:Rl)(hco:r.co.d= .f r.co)(hcc:(D.f r.co).cells=some [.f r.co])(b:List Nat)(ns:List (Nat×Nat))(hb:b.length<=3)(h:Bks r b ns)(hle:le1 (sN ns)=true):Ans pr 211 [.ag (rlF r),ixF b] (.ag (fr (sN ns))):=by
 obtain⟨hl,hB⟩ :=id h;refine zb6 fn211 ?_;have hd:(zaW r.tu).d= .f (zaW r.tu):=zd5 _;simp only[zyA,rU];simp[rW,st0,zax,rlE,hco,hd,zlR,zgS];refine zcz b.length (J211 r b ns) (fun e s=>e= .exit 0/\J211 r b ns b.length s) ?_ ?_ _ ⟨⟨?_,?_,?_,?_,?_,?_,?_,?_,?_⟩,?_⟩ ?_
 .rintro n s hn ⟨⟨h2,h4,h5,h8,h9,h10,g0,g1,g2⟩,hc⟩;have hw:=zaK n (by omega);have hnn:n<ns.length:=by omega
  obtain⟨T,hT,hT2,hm⟩ :=hB n hn hnn;have hA:=zLV (by omega) h hle hnn;obtain⟨x0,y0,hx0,d0,d1,-,-⟩ :=zEk ns n;obtain⟨x1,y1,hx1,k0,k1,l0,l1⟩ :=zEk ns (n+1);have htu:tuF T=[valsF T.1,.b false,frN (ns[n]).1,frN (ns[n]).2]:=by unfold tuF;rw[hT2];rfl
  rw[hx0,hx1]at hA;rw[hx0]at g2;have q1:=fun k=>zaj (k:=k) hA
  simp only[frE]at q1;simp only[Z10,Z85]at g2;have hxi:b[n]? =some b[n]:=Z0 hn;generalize hI:b[n]=i at hxi hT;generalize hM:ns[n]=m at htu q1;have hix:ixF b= .sl 1 (b.map fun i=>[.i .i64 (i:Nat)]):=rfl;have c2:2<s.c:=by omega
  simp[rW,h2,h4,h5,h8,h9,h10,g0,g1,g2,hn,hix,hxi,hI];refine zaM ?_;simp[rW,h2,h4,h5,h8,h9,h10,g0,g1,g2,hn,hix,hxi,hI,zfZ,hT,htu,zer,zeQ,q1,d0,d1,k0,k1,l0,l1,c2,hw];refine⟨⟨?_,?_,?_,?_,?_,?_,?_,?_,?_⟩,?_⟩
  all_goals simp[rW,h2,h4,h5,h8,h9,h10,g0,g1,g2,hw,hc,hx1,hix]
 .rintro s ⟨⟨h2,h4,h5,h8,h9,h10,g0,g1,g2⟩,hc⟩;simp[rW,h9,h10];exact⟨⟨by simp[rW,h2],by simp[rW,h4],by simp[rW,h5],by simp[rW,h8],by simp[rW,h9],by simp[rW,h10],by simp[rW,g0],by simp[rW,g1],by simp[rW,g2]⟩,by simp[rW,hc]⟩
 .simp[rW]
 .simp[rW]
 .simp[rW]
 .simp[rW]
 .simp[rW]
 .simp[rW]
 .simp[rW]
 .simp[rW]
 .simp[rW,tP,zP]
 .simp[rW]
 .rintro e s ⟨rfl,⟨h2,h4,h5,h8,h9,h10,g0,g1,g2⟩,hc⟩;have c1:1<s.c:=by omega
  have hN:Ans pr 85 [.ag (tP ns b.length)] (.ag (fr (sN ns))):=by
   have hI:=zn6 ns (by omega) h.mem;cases hbl:b.length with
   |zero=>
    have:ns=[]:=Z17.1 (by omega);subst this;exact uZ0
   |succ n=>
    have:=(allL uC _ hI hle).2.2.1;have e:tP ns (n+1)=fr (sN ns):=by
     show fr (sN (ns.take (n+1)))=_;rw[Z11 (by omega)]
    rw[e];exact this
  obtain⟨x0,y0,hx0,d0,d1,-,-⟩ :=zEk ns b.length;rw[hx0]at hN g2;have q1:=fun k=>zaj (k:=k) hN
  simp only[frE]at q1;simp only[Z10,Z85]at g2;simp[rW,h4,h5,g1,g2,c1,d0,d1,q1,zer,zeQ];rfl
def fn286:pr.fn 286=some zyI:=by kernel_rfl
def fn208:pr.fn 208=some zyz:=by kernel_rfl
def ro287(a b:Int)(h:T Ob)(c:Nat):RO pr 287 [.ag ((vF a).map D.f),.ag ((vF b).map D.f)] h c (.f (.i .i64 (zcn a b))):=by
 have q1:=fun k=>zaj (k:=k) (zKm 1 1)
 have q2:=fun k=>zaj (k:=k) (zKo a b)
 have q3:=fun k=>zaj (k:=k) (zKp [] [])
 have e1:zcn 1 1=0:=rfl;have e3:zmi [] []=0:=rfl;rw[e1]at q1;rw[e3]at q3;have q4:=fun k=>zaj (k:=k) (zKj 0 (zcn a b) 0)
 refine zm3 zfE fn287 rfl ?_;simp only[zyK,rU];simp[rW,st0,zax,vF,zhy];refine zaM ?_;simp[rW,vF,q1,q2,q3,q4,zhy];refine⟨fun h=>h.symm,?_⟩;simp (disch:=omega) only[zni,zmx]
def J286(a b:List Int)(c n:Nat)(s:St):Prop:=n<=b.length/\(s.tm.get 0=some (.f (valsF a))/\s.tm.get 1=some (.f (valsF b))/\s.tm.get 2=some (.f (.fn 287))/\s.tm.get 11=some (.f (valsF a))/\s.tm.get 12=some (.f (.i .i64 a.length))/\s.tm.get 13=some (.f (.i .i64 n)))/\c<=s.c/\s.lw=c/\cmpL a b=cmpL (a.drop n) (b.drop n)
def R286(a b:List Int)(c:Nat)(x:Ex)(s:St):Prop:=(x= .exit 0/\J286 a b c a.length s)\/(x= .ret/\s.tm.get 6=some (.f (.i .i64 (cmpL a b)))/\s.lw=c)
def zHX{a b:List Int}{n:Nat}(h:n<a.length)(h2:n<b.length):cmpL (a.drop n) (b.drop n)=if a[n]=b[n]then cmpL (a.drop (n+1)) (b.drop (n+1))else zcn a[n] b[n]:=by
 rw[Z55 h,Z55 h2];rfl
def zAy{x y:Int}:zcn x y=0↔x=y:=by
 unfold zcn;split
 .omega
 .split<;>omega
def ro286(a b:List Int)(ha:a.length<1000)(h:T Ob)(c:Nat):RO pr 286 [.f (valsF a),.f (valsF b),.f (.fn 287)] h c (.f (.i .i64 (cmpL a b))):=by
 refine zm3 zfE fn286 rfl ?_;simp only[zyI,rU];simp[rW,st0,zax,zcL];refine zeD (fun k s=>∃n:Nat,n<=a.length/\k=a.length - n/\J286 a b c n s) (R286 a b c) ?_ a.length _ ⟨0,Z61 _,rfl,Z61 _,⟨?_,?_,?_,?_,?_,?_⟩,?_,?_,rfl⟩ ?_
 .rintro k s ⟨n,hn,rfl,hnb,⟨h0,h1,h2,h11,h12,h13⟩,hc,hl,hA⟩;have hw:=zaK n (by omega)
  by_cases hlt:n<a.length
  .by_cases hlb:n<b.length
   .have hx:a[n]? =some a[n]:=Z0 hlt;have hy:b[n]? =some b[n]:=Z0 hlb;rw[zHX hlt hlb]at hA;generalize hX:a[n]=x at hx hA;generalize hY:b[n]=y at hy hA;have hrv:=fun(h:T Ob) (c:Nat)=>ro287 x y h c
    simp only[vF,Z10,Z85]at hrv;have hltI:(n:Int)<a.length:=by omega
    have hgeI:¬((b.length:Int)<=n):=by omega
    by_cases he:x=y
    .rw[Z51 he]at hA;have hz:=zAy.2 he;simp[rW,h0,h1,h2,h11,h12,h13,hlt,hltI,hgeI,zcL,zic,hx,hX,hy,hY,vF];refine zh0 (hrv _ _) ?_ ?_
     .simp only[rG];simp (disch:=omega) only[zni,zmx];omega
     intro mx;simp[rW,h0,h1,h2,h11,h12,h13,hz,hw];rw[zcY];refine⟨a.length - (n+1),by omega,n+1,by omega,rfl,by omega,⟨?_,?_,?_,?_,?_,?_⟩,?_,?_,hA⟩
     .simp[rW,h0]
     .simp[rW,h1]
     .simp[rW,h2]
     .simp[rW,h11]
     .simp[rW,h12]
     .simp[rW,hw]
     .simp[rW]<;>omega
     .simp[rW];simp (disch:=omega) only[zni,zmx];exact hl
    .rw[Z49 he]at hA;have hz:¬zcn x y=0:=fun e=>he (zAy.1 e)
     simp[rW,h0,h1,h2,h11,h12,h13,hlt,hltI,hgeI,zcL,zic,hx,hX,hy,hY,vF];refine zh0 (hrv _ _) ?_ ?_
     .simp only[rG];simp (disch:=omega) only[zni,zmx];omega
     intro mx;simp[rW,h0,h1,h2,h11,h12,h13,hz];exact .inr ⟨rfl,by rw[hA];simp[rW],by simp[rW];simp (disch:=omega) only[zni,zmx];exact hl⟩
   .have hnb2:n=b.length:=by omega
    have hx:a[n]? =some a[n]:=Z0 hlt;have hltI:(n:Int)<a.length:=by omega
    have hgeI:(b.length:Int)<=n:=by omega
    have hv:cmpL a b=1:=by
     rw[hA,hnb2,Z206,zry,Z51 (by rw[List.length_drop];omega)]
    simp[rW,h0,h1,h2,h11,h12,h13,hlt,hltI,hgeI,zcL,zic,hx,vF];exact .inr ⟨rfl,by rw[hv];simp[rW],by simp[rW];simp (disch:=omega) only[zni,zmx];exact hl⟩
  .have hnl:n=a.length:=by omega
   subst hnl;simp[rW,h12,h13];exact .inl ⟨rfl,hnb,⟨by simp[rW,h0],by simp[rW,h1],by simp[rW,h2],by simp[rW,h11],by simp[rW,h12],by simp[rW,h13]⟩,by simp[rW,hc],by simp[rW,hl],hA⟩
 .simp[rW]
 .simp[rW]
 .simp[rW]
 .simp[rW]
 .simp[rW]
 .simp[rW]
 .simp[rW]
 .simp[rW]
 .rintro x s (⟨rfl,hnb,⟨h0,h1,h2,h11,h12,h13⟩,hc,hl,hA⟩ |⟨rfl,h6,hl⟩)
  .rw[Z206,ztJ,List.length_drop]at hA
   by_cases hlt:a.length<b.length
   .rw[Z51 (by omega)]at hA;rw[hA];simp[rW,h0,h1,zcL,hlt,zhy,hl]
   .rw[Z49 (by omega)]at hA;rw[hA];simp[rW,h0,h1,zcL,hlt,zhy,hl]
  .simp[rW,h6,hl,zhy]
def zKb(a b:List Int)(ha:a.length<1000):Ans pr 208 [valsF a,valsF b] (.i .i64 (cmpL a b)):=by
 refine zb6 fn208 ?_;simp only[zyz,rU];simp[rW,st0,zax,zaH];refine zh0 (ro286 a b ha _ _) ?_ ?_
 .simp only[rG];exact Z2 _
 intro mx;simp[rW]
def fn14:pr.fn 14=some g14:=by kernel_rfl
def znG(a:Int)(m:Nat)(hm:m<2147483648):∃r:Nat,r<=m/\zbk .and (.i .i64 a) (.i .i64 m)=some (.i .i64 r):=by
 refine⟨(BitVec.ofInt 64 a&&& BitVec.ofInt 64 m).toNat,?_,?_⟩
 .rw[BitVec.toNat_and];refine Z3 Z203 ?_;rw[BitVec.toNat_ofInt];omega
 .have hle:(BitVec.ofInt 64 a&&& BitVec.ofInt 64 m).toNat<=m:=by
   rw[BitVec.toNat_and];refine Z3 Z203 ?_;rw[BitVec.toNat_ofInt];omega
  have e:zbk .and (.i .i64 a) (.i .i64 m)=some (.i .i64 (IntKind.i64.wrap ((BitVec.ofInt 64 a&&& BitVec.ofInt 64 m).toNat:Int))):=rfl;rw[e,wrap_i64 _ (by omega) (by omega)]
def zdu(x:F):Prop:=x= .nils\/∃zs:List Int,x= .sl 1 (zs.map fun z=>[.i .i64 z])
def zdA(a b:Nat)(hb:b≠0):zbk .rem (.i .i64 a) (.i .i64 b)=some (.i .i64 ((a%b:Nat):Int)):=by
 rw[zHO _ _ (by omega)];rfl
def zfQ(a b:Nat)(hb:b≠0)(ha:a<1000000):zbk .quo (.i .i64 a) (.i .i64 b)=some (.i .i64 ((a/b:Nat):Int)):=by
 have:=Nat.div_le_self a b;rw[zHL _ _ (by omega),show(a:Int).tdiv b=((a/b:Nat):Int)from rfl];generalize a/b=q at*;rw[wrap_i64 _ (by omega) (by omega)]
def zHw(a b:Nat)(ha:a<1000000)(hb:b<1000000):IntKind.i64.wrap ((a:Int)+b)=((a+b:Nat):Int):=by
 rw[wrap_i64 _ (by omega) (by omega)];omega
def zhJ{x:F}(hx:zdu x)(i:Nat)(hi:i<1000):∃n:Nat,n<100000/\Ans pr 14 [x,.i .i64 i] (.i .i64 n):=by
 obtain⟨r0,hr0,he0⟩ :=znG i 65535 (by omega);have he0':zbk .and (.i .i64 i) (.i .i64 65535)=some (.i .i64 r0):=he0;have nil:zcE (.f .nils)=some 0:=rfl
 by_cases hz:x= .nils\/x= .sl 1 []
 .refine⟨r0,by omega,zb6 fn14 ?_⟩;simp only[g14,rU];rcases hz with rfl|rfl
  .simp[rW,st0,zax,he0']
  .simp[rW,st0,zax,he0',F.d]
 .rcases hx with rfl|⟨zs,rfl⟩
  .exact absurd (.inl rfl) hz
  .have hz:zs≠[]:=fun e=>hz (.inr (by rw[e];rfl))
   have hlen:0<zs.length:=Z129.2 hz;have hn0:¬zs.length=0:=by omega
   have hni:¬((zs.length:Int)=0):=by omega
   have hmod:i%zs.length<zs.length:=Z124 _ hlen;have hrem:=zdA i zs.length hn0;have hquo:=zfQ i zs.length hn0 (by omega);have hdl:i/zs.length<=i:=Nat.div_le_self _ _;generalize i%zs.length=m at hmod hrem;generalize i/zs.length=d at hquo hdl;obtain⟨r,hr,he⟩ :=znG zs[m] 65535 (by omega);have he':zbk .and (.i .i64 zs[m]) (.i .i64 65535)=some (.i .i64 r):=he;have hx:zs[m]? =some zs[m]:=Z0 hmod;have hw:=zHw r d (by omega) (by omega);refine⟨r+d,by omega,zb6 fn14 ?_⟩;simp only[g14,rU];simp[rW,st0,zax,hni,hn0,F.d];refine zaM ?_;simp[rW,st0,zax,hrem,hquo,hmod,he',hx,hw,F.d]
end Go.Proofs.YtlinkhjnihjbaaaGreatDoor
end
