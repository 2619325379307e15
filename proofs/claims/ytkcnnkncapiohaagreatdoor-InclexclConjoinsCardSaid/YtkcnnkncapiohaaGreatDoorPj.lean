/- Sums of probabilities; what is known of relations of the four schemas. Written by program. -/
import Derived.Test.YtkcnnkncapiohaaGreatDoorPb
import Derived.Test.YtkcnnkncapiohaaGreatDoorPe
import Derived.Test.YtkcnnkncapiohaaGreatDoorPi
import Derived.Test.YtkcnnkncapiohaaGreatDoorQs0
import Derived.Test.YtkcnnkncapiohaaGreatDoorPg
import Derived.Test.YtkcnnkncapiohaaGreatDoorQs1
import Derived.Test.YtkcnnkncapiohaaGreatDoorQs2
import Derived.KernelRfl
import Derived.IntWalk
set_option linter.all false
set_option maxRecDepth 100000
set_option maxHeartbeats 4000000
noncomputable section
section
namespace Go.Proofs.YtkcnnkncapiohaaGreatDoor
open Go Go.Vse Go.Vse.Sm
def AllL{α:Type}(P:α->Prop):List α->Prop
 |[]=>True
 |a::l=>P a/\AllL P l
theorem allL{α:Type}{P:α->Prop}:∀{l:List α},AllL P l->∀a∈l,P a
 |[],_,a,h=>by simp at h
 |b::l,h,a,ha=>by
  rcases Z5.1 ha with rfl|ha
  .exact h.1
  .exact allL h.2 a ha
def dgS{d:Nat}(h:d<4294967296):Dg [d]:=fun x hx=>by rw[Z31.1 hx];exact h
def mg{α:Type}{l:List α}(n:Nat){a:α}(h:l[n]? =some a):a∈l:=Z39 h
def zcH:∀p∈PPl,Pc p:=allL (P:=Pc) (l:=PPl) ⟨⟨_,_,_,rfl,rfl,rfl,rfl⟩,⟨_,_,_,rfl,rfl,rfl,rfl⟩,⟨_,_,_,rfl,rfl,rfl,rfl⟩,⟨_,_,_,rfl,rfl,rfl,rfl⟩,⟨_,_,_,rfl,rfl,rfl,rfl⟩,⟨_,_,_,rfl,rfl,rfl,rfl⟩,⟨_,_,_,rfl,rfl,rfl,rfl⟩,⟨_,_,_,rfl,rfl,rfl,rfl⟩,trivial⟩
def zqo:∀p∈PPl,FrP 1 p:=allL (P:=FrP 1) (l:=PPl) ⟨⟨_,_,_,[1],[2],rfl,.inl rfl,.inl rfl,dgS (by decide),dgS (by decide),by simp,by simp⟩,⟨_,_,_,[1],[3],rfl,.inl rfl,.inl rfl,dgS (by decide),dgS (by decide),by simp,by simp⟩,⟨_,_,_,[2],[3],rfl,.inl rfl,.inl rfl,dgS (by decide),dgS (by decide),by simp,by simp⟩,⟨_,_,_,[1],[4],rfl,.inl rfl,.inl rfl,dgS (by decide),dgS (by decide),by simp,by simp⟩,⟨_,_,_,[1],[1],rfl,.inl rfl,.inl rfl,dgS (by decide),dgS (by decide),by simp,by simp⟩,⟨_,_,_,[],[1],rfl,nfN,nf1,dgNl,dgI,by simp,by simp⟩,⟨_,_,_,[3],[5],rfl,.inl rfl,.inl rfl,dgS (by decide),dgS (by decide),by simp,by simp⟩,⟨_,_,_,[1],[7],rfl,.inl rfl,.inl rfl,dgS (by decide),dgS (by decide),by simp,by simp⟩,trivial⟩
def zCw:∀p∈PPl,Ans pr 47 [.ag p] (.ag p):=allL (P:=fun p=>Ans pr 47 [.ag p] (.ag p)) (l:=PPl) ⟨zoG,zlV,zlW,zlh,zfu,ziJ,zlk,zll,trivial⟩
def SSp(k:Nat)(p:List F):Prop:=k<=3/\FrP (2 ^ (k+1) - 1) p
def PPp(p:List F):Prop:=p∈PPl
def frC{n:Nat}{p:List F}(h:FrP n p):Pc p:=by
 obtain⟨a,b,c,e,d0,d1,d2,-⟩ :=h.cells;exact⟨a,b,c,e,d0,d1,d2⟩
theorem zla:zkP SSp PPp where
 z:=⟨_,⟨by omega,zlC⟩,fi0⟩
 pc:=fun k p h=>frC h.2
 pp:=zcH
 add:=fun k s p hk hs hp=>by
  have h8:(2:Nat) ^ (k+1)<=8:=Z113 (n:=2) (by omega) (by omega:k+1<=3);have h2:2<=(2:Nat) ^ (k+1):=Z113 (n:=2) (i:=1) (by omega) (by omega);obtain⟨r,hr,ar⟩ :=zwa hs.2 ((zqo p hp).up (by omega)) (by omega) (by omega);have e2:2*(2 ^ (k+1) - 1)+1=2 ^ (k+1+1) - 1:=by rw[Z195 2 (k+1)];omega
  rw[e2]at hr;exact⟨r,⟨by omega,hr⟩,ar⟩
 prob:=fun k s h=>by
  have h8:(2:Nat) ^ (k+1)<=16:=Z113 (n:=2) (by omega) (by have:=h.1;omega:k+1<=4);have h2:2<=(2:Nat) ^ (k+1):=Z113 (n:=2) (i:=1) (by omega) (by omega);exact zRt h.2 (by omega) (by omega)
 norm:=zCw
def coR:F:= .sl 3 [[.s [97],.i .i64 1,.b false],[.s [98],.i .i64 1,.b false]]
def rR(tu:List (List Int×List F)):Rl:=⟨[82],false,coR,tu⟩
def TuR(t:List Int×List F):Prop:=PPp t.2/\∃a b:Int,t.1=[a,b]/\1<=b/\b<=3
def ckR(t:List Int×List F)(h:TuR t):∃e,Ans pr 94 [.ag [.s [82],.b false,coR],.ag (tuF t)] (.i .i64 e):=by
 obtain⟨hp,a,b,he,_,_⟩ :=h;obtain⟨vs,p⟩ :=t;simp only at he;subst he;exact allL (P:=fun p=>∃e,Ans pr 94 [.ag [.s [82],.b false,coR],.ag (tuF ([a,b],p))] (.i .i64 e)) (l:=PPl) ⟨⟨_,ctR0 a b⟩,⟨_,ctR1 a b⟩,⟨_,ctR2 a b⟩,⟨_,ctR3 a b⟩,⟨_,ctR4 a b⟩,⟨_,ctR5 a b⟩,⟨_,ctR6 a b⟩,⟨_,ctR7 a b⟩,trivial⟩ p hp
def gR(tu:List (List Int×List F))(hn:tu.length<=3)(h:∀t∈tu,TuR t):∃B:List (List Nat),Ans pr 115 [.ag (rlF (rR tu))] (zfW B)/\B.length<=3/\∀b∈B,b.length<=3/\∀i∈b,i<tu.length:=by
 match tu,hn with
 |[],_=>
  exact⟨[],grR0,by simp,by simp⟩
 |[t0],_=>
  obtain⟨hp0,a0,b0,he0,l0,k0⟩ :=h t0 (by simp);obtain⟨x0,y0,z0,hx0,_,_,_⟩ :=zcH _ hp0;obtain⟨v0,w0⟩ :=t0;simp only at he0 hx0;subst he0 hx0;exact⟨[[0]],grR1 a0 b0 x0 y0 z0,by simp,by simp⟩
 |[t0,t1],_=>
  obtain⟨hp0,a0,b0,he0,l0,k0⟩ :=h t0 (by simp);obtain⟨x0,y0,z0,hx0,_,_,_⟩ :=zcH _ hp0;obtain⟨v0,w0⟩ :=t0;simp only at he0 hx0;subst he0 hx0;obtain⟨hp1,a1,b1,he1,l1,k1⟩ :=h t1 (by simp);obtain⟨x1,y1,z1,hx1,_,_,_⟩ :=zcH _ hp1;obtain⟨v1,w1⟩ :=t1;simp only at he1 hx1;subst he1 hx1;exact⟨[[0],[1]],grR2 a0 b0 x0 y0 z0 a1 b1 x1 y1 z1,by simp,by simp⟩
 |[t0,t1,t2],_=>
  obtain⟨hp0,a0,b0,he0,l0,k0⟩ :=h t0 (by simp);obtain⟨x0,y0,z0,hx0,_,_,_⟩ :=zcH _ hp0;obtain⟨v0,w0⟩ :=t0;simp only at he0 hx0;subst he0 hx0;obtain⟨hp1,a1,b1,he1,l1,k1⟩ :=h t1 (by simp);obtain⟨x1,y1,z1,hx1,_,_,_⟩ :=zcH _ hp1;obtain⟨v1,w1⟩ :=t1;simp only at he1 hx1;subst he1 hx1;obtain⟨hp2,a2,b2,he2,l2,k2⟩ :=h t2 (by simp);obtain⟨x2,y2,z2,hx2,_,_,_⟩ :=zcH _ hp2;obtain⟨v2,w2⟩ :=t2;simp only at he2 hx2;subst he2 hx2;exact⟨[[0],[1],[2]],grR3 a0 b0 x0 y0 z0 a1 b1 x1 y1 z1 a2 b2 x2 y2 z2,by simp,by simp⟩
 |_::_::_::_::_,h=>exact absurd h (by simp)
theorem okR(tu:List (List Int×List F))(hn:tu.length<=3)(h:∀t∈tu,TuR t):zd7 SSp PPp (rR tu) where
 co:=rfl
 cc:=rfl
 v:=zhn
 n:=hn
 p:=fun t ht=>(h t ht).1
 c:=fun t ht=>ckR t (h t ht)
 l:=fun t ht=>by obtain⟨_,a,b,he,_,_⟩ :=h t ht;rw[he];simp
 g:=gR tu hn h
 gc:=fun h=>by simp[rR]at h
def coS:F:= .sl 3 [[.s [97],.i .i64 1,.b false]]
def rS(tu:List (List Int×List F)):Rl:=⟨[83],false,coS,tu⟩
def TuS(t:List Int×List F):Prop:=PPp t.2/\∃a:Int,t.1=[a]
def ckS(t:List Int×List F)(h:TuS t):∃e,Ans pr 94 [.ag [.s [83],.b false,coS],.ag (tuF t)] (.i .i64 e):=by
 obtain⟨hp,a,he⟩ :=h;obtain⟨vs,p⟩ :=t;simp only at he;subst he;exact allL (P:=fun p=>∃e,Ans pr 94 [.ag [.s [83],.b false,coS],.ag (tuF ([a],p))] (.i .i64 e)) (l:=PPl) ⟨⟨_,ctS0 a⟩,⟨_,ctS1 a⟩,⟨_,ctS2 a⟩,⟨_,ctS3 a⟩,⟨_,ctS4 a⟩,⟨_,ctS5 a⟩,⟨_,ctS6 a⟩,⟨_,ctS7 a⟩,trivial⟩ p hp
def gS(tu:List (List Int×List F))(hn:tu.length<=3)(h:∀t∈tu,TuS t):∃B:List (List Nat),Ans pr 115 [.ag (rlF (rS tu))] (zfW B)/\B.length<=3/\∀b∈B,b.length<=3/\∀i∈b,i<tu.length:=by
 match tu,hn with
 |[],_=>
  exact⟨[],grS0,by simp,by simp⟩
 |[t0],_=>
  obtain⟨hp0,a0,he0⟩ :=h t0 (by simp);obtain⟨x0,y0,z0,hx0,_,_,_⟩ :=zcH _ hp0;obtain⟨v0,w0⟩ :=t0;simp only at he0 hx0;subst he0 hx0;exact⟨[[0]],grS1 a0 x0 y0 z0,by simp,by simp⟩
 |[t0,t1],_=>
  obtain⟨hp0,a0,he0⟩ :=h t0 (by simp);obtain⟨x0,y0,z0,hx0,_,_,_⟩ :=zcH _ hp0;obtain⟨v0,w0⟩ :=t0;simp only at he0 hx0;subst he0 hx0;obtain⟨hp1,a1,he1⟩ :=h t1 (by simp);obtain⟨x1,y1,z1,hx1,_,_,_⟩ :=zcH _ hp1;obtain⟨v1,w1⟩ :=t1;simp only at he1 hx1;subst he1 hx1;exact⟨[[0],[1]],grS2 a0 x0 y0 z0 a1 x1 y1 z1,by simp,by simp⟩
 |[t0,t1,t2],_=>
  obtain⟨hp0,a0,he0⟩ :=h t0 (by simp);obtain⟨x0,y0,z0,hx0,_,_,_⟩ :=zcH _ hp0;obtain⟨v0,w0⟩ :=t0;simp only at he0 hx0;subst he0 hx0;obtain⟨hp1,a1,he1⟩ :=h t1 (by simp);obtain⟨x1,y1,z1,hx1,_,_,_⟩ :=zcH _ hp1;obtain⟨v1,w1⟩ :=t1;simp only at he1 hx1;subst he1 hx1;obtain⟨hp2,a2,he2⟩ :=h t2 (by simp);obtain⟨x2,y2,z2,hx2,_,_,_⟩ :=zcH _ hp2;obtain⟨v2,w2⟩ :=t2;simp only at he2 hx2;subst he2 hx2;exact⟨[[0],[1],[2]],grS3 a0 x0 y0 z0 a1 x1 y1 z1 a2 x2 y2 z2,by simp,by simp⟩
 |_::_::_::_::_,h=>exact absurd h (by simp)
theorem okS(tu:List (List Int×List F))(hn:tu.length<=3)(h:∀t∈tu,TuS t):zd7 SSp PPp (rS tu) where
 co:=rfl
 cc:=rfl
 v:=zhq
 n:=hn
 p:=fun t ht=>(h t ht).1
 c:=fun t ht=>ckS t (h t ht)
 l:=fun t ht=>by obtain⟨_,a,he⟩ :=h t ht;rw[he];simp
 g:=gS tu hn h
 gc:=fun h=>by simp[rS]at h
def coK:F:= .sl 3 [[.s [107],.i .i64 1,.b true],[.s [118],.i .i64 1,.b false]]
def rK(tu:List (List Int×List F)):Rl:=⟨[75],false,coK,tu⟩
def TuK(t:List Int×List F):Prop:=PPp t.2/\∃a b:Int,t.1=[a,b]/\1<=a/\a<=3
def ckK(t:List Int×List F)(h:TuK t):∃e,Ans pr 94 [.ag [.s [75],.b false,coK],.ag (tuF t)] (.i .i64 e):=by
 obtain⟨hp,a,b,he,_,_⟩ :=h;obtain⟨vs,p⟩ :=t;simp only at he;subst he;exact allL (P:=fun p=>∃e,Ans pr 94 [.ag [.s [75],.b false,coK],.ag (tuF ([a,b],p))] (.i .i64 e)) (l:=PPl) ⟨⟨_,ctK0 a b⟩,⟨_,ctK1 a b⟩,⟨_,ctK2 a b⟩,⟨_,ctK3 a b⟩,⟨_,ctK4 a b⟩,⟨_,ctK5 a b⟩,⟨_,ctK6 a b⟩,⟨_,ctK7 a b⟩,trivial⟩ p hp
def gK(tu:List (List Int×List F))(hn:tu.length<=3)(h:∀t∈tu,TuK t):∃B:List (List Nat),Ans pr 115 [.ag (rlF (rK tu))] (zfW B)/\B.length<=3/\∀b∈B,b.length<=3/\∀i∈b,i<tu.length:=by
 match tu,hn with
 |[],_=>
  exact⟨[],grK0,by simp,by simp⟩
 |[t0],_=>
  obtain⟨hp0,a0,b0,he0,l0,k0⟩ :=h t0 (by simp);obtain⟨x0,y0,z0,hx0,_,_,_⟩ :=zcH _ hp0;obtain⟨v0,w0⟩ :=t0;simp only at he0 hx0;subst he0 hx0;exact⟨[[0]],grK1 a0 b0 x0 y0 z0,by simp,by simp⟩
 |[t0,t1],_=>
  obtain⟨hp0,a0,b0,he0,l0,k0⟩ :=h t0 (by simp);obtain⟨x0,y0,z0,hx0,_,_,_⟩ :=zcH _ hp0;obtain⟨v0,w0⟩ :=t0;simp only at he0 hx0;subst he0 hx0;obtain⟨hp1,a1,b1,he1,l1,k1⟩ :=h t1 (by simp);obtain⟨x1,y1,z1,hx1,_,_,_⟩ :=zcH _ hp1;obtain⟨v1,w1⟩ :=t1;simp only at he1 hx1;subst he1 hx1;have q0:a0=1\/a0=2\/a0=3:=by omega
  have q1:a1=1\/a1=2\/a1=3:=by omega
  rcases q0 with rfl|rfl|rfl<;>rcases q1 with rfl|rfl|rfl
  .exact⟨[[0,1]],zHr b0 x0 y0 z0 b1 x1 y1 z1,by simp,by simp⟩
  .exact⟨[[0],[1]],zHu b0 x0 y0 z0 b1 x1 y1 z1,by simp,by simp⟩
  .exact⟨[[0],[1]],zHv b0 x0 y0 z0 b1 x1 y1 z1,by simp,by simp⟩
  .exact⟨[[1],[0]],zHw b0 x0 y0 z0 b1 x1 y1 z1,by simp,by simp⟩
  .exact⟨[[0,1]],zHz b0 x0 y0 z0 b1 x1 y1 z1,by simp,by simp⟩
  .exact⟨[[0],[1]],zHA b0 x0 y0 z0 b1 x1 y1 z1,by simp,by simp⟩
  .exact⟨[[1],[0]],zHD b0 x0 y0 z0 b1 x1 y1 z1,by simp,by simp⟩
  .exact⟨[[1],[0]],zHH b0 x0 y0 z0 b1 x1 y1 z1,by simp,by simp⟩
  .exact⟨[[0,1]],zHI b0 x0 y0 z0 b1 x1 y1 z1,by simp,by simp⟩
 |[t0,t1,t2],_=>
  obtain⟨hp0,a0,b0,he0,l0,k0⟩ :=h t0 (by simp);obtain⟨x0,y0,z0,hx0,_,_,_⟩ :=zcH _ hp0;obtain⟨v0,w0⟩ :=t0;simp only at he0 hx0;subst he0 hx0;obtain⟨hp1,a1,b1,he1,l1,k1⟩ :=h t1 (by simp);obtain⟨x1,y1,z1,hx1,_,_,_⟩ :=zcH _ hp1;obtain⟨v1,w1⟩ :=t1;simp only at he1 hx1;subst he1 hx1;obtain⟨hp2,a2,b2,he2,l2,k2⟩ :=h t2 (by simp);obtain⟨x2,y2,z2,hx2,_,_,_⟩ :=zcH _ hp2;obtain⟨v2,w2⟩ :=t2;simp only at he2 hx2;subst he2 hx2;have q0:a0=1\/a0=2\/a0=3:=by omega
  have q1:a1=1\/a1=2\/a1=3:=by omega
  have q2:a2=1\/a2=2\/a2=3:=by omega
  rcases q0 with rfl|rfl|rfl<;>rcases q1 with rfl|rfl|rfl<;>rcases q2 with rfl|rfl|rfl
  .exact⟨[[0,1,2]],zBH b0 x0 y0 z0 b1 x1 y1 z1 b2 x2 y2 z2,by simp,by simp⟩
  .exact⟨[[0,1],[2]],zBI b0 x0 y0 z0 b1 x1 y1 z1 b2 x2 y2 z2,by simp,by simp⟩
  .exact⟨[[0,1],[2]],zBJ b0 x0 y0 z0 b1 x1 y1 z1 b2 x2 y2 z2,by simp,by simp⟩
  .exact⟨[[0,2],[1]],zBK b0 x0 y0 z0 b1 x1 y1 z1 b2 x2 y2 z2,by simp,by simp⟩
  .exact⟨[[0],[1,2]],zBL b0 x0 y0 z0 b1 x1 y1 z1 b2 x2 y2 z2,by simp,by simp⟩
  .exact⟨[[0],[1],[2]],zBM b0 x0 y0 z0 b1 x1 y1 z1 b2 x2 y2 z2,by simp,by simp⟩
  .exact⟨[[0,2],[1]],zBN b0 x0 y0 z0 b1 x1 y1 z1 b2 x2 y2 z2,by simp,by simp⟩
  .exact⟨[[0],[2],[1]],zBO b0 x0 y0 z0 b1 x1 y1 z1 b2 x2 y2 z2,by simp,by simp⟩
  .exact⟨[[0],[1,2]],zBQ b0 x0 y0 z0 b1 x1 y1 z1 b2 x2 y2 z2,by simp,by simp⟩
  .exact⟨[[1,2],[0]],zBR b0 x0 y0 z0 b1 x1 y1 z1 b2 x2 y2 z2,by simp,by simp⟩
  .exact⟨[[1],[0,2]],zBS b0 x0 y0 z0 b1 x1 y1 z1 b2 x2 y2 z2,by simp,by simp⟩
  .exact⟨[[1],[0],[2]],zBX b0 x0 y0 z0 b1 x1 y1 z1 b2 x2 y2 z2,by simp,by simp⟩
  .exact⟨[[2],[0,1]],zBZ b0 x0 y0 z0 b1 x1 y1 z1 b2 x2 y2 z2,by simp,by simp⟩
  .exact⟨[[0,1,2]],zB0 b0 x0 y0 z0 b1 x1 y1 z1 b2 x2 y2 z2,by simp,by simp⟩
  .exact⟨[[0,1],[2]],zB1 b0 x0 y0 z0 b1 x1 y1 z1 b2 x2 y2 z2,by simp,by simp⟩
  .exact⟨[[2],[0],[1]],zB2 b0 x0 y0 z0 b1 x1 y1 z1 b2 x2 y2 z2,by simp,by simp⟩
  .exact⟨[[0,2],[1]],zB3 b0 x0 y0 z0 b1 x1 y1 z1 b2 x2 y2 z2,by simp,by simp⟩
  .exact⟨[[0],[1,2]],zB4 b0 x0 y0 z0 b1 x1 y1 z1 b2 x2 y2 z2,by simp,by simp⟩
  .exact⟨[[1,2],[0]],zB5 b0 x0 y0 z0 b1 x1 y1 z1 b2 x2 y2 z2,by simp,by simp⟩
  .exact⟨[[1],[2],[0]],zB6 b0 x0 y0 z0 b1 x1 y1 z1 b2 x2 y2 z2,by simp,by simp⟩
  .exact⟨[[1],[0,2]],zB7 b0 x0 y0 z0 b1 x1 y1 z1 b2 x2 y2 z2,by simp,by simp⟩
  .exact⟨[[2],[1],[0]],zB8 b0 x0 y0 z0 b1 x1 y1 z1 b2 x2 y2 z2,by simp,by simp⟩
  .exact⟨[[1,2],[0]],zCd b0 x0 y0 z0 b1 x1 y1 z1 b2 x2 y2 z2,by simp,by simp⟩
  .exact⟨[[1],[0,2]],zCe b0 x0 y0 z0 b1 x1 y1 z1 b2 x2 y2 z2,by simp,by simp⟩
  .exact⟨[[2],[0,1]],zCf b0 x0 y0 z0 b1 x1 y1 z1 b2 x2 y2 z2,by simp,by simp⟩
  .exact⟨[[2],[0,1]],zCh b0 x0 y0 z0 b1 x1 y1 z1 b2 x2 y2 z2,by simp,by simp⟩
  .exact⟨[[0,1,2]],zCj b0 x0 y0 z0 b1 x1 y1 z1 b2 x2 y2 z2,by simp,by simp⟩
 |_::_::_::_::_,h=>exact absurd h (by simp)
theorem okK(tu:List (List Int×List F))(hn:tu.length<=3)(h:∀t∈tu,TuK t):zd7 SSp PPp (rK tu) where
 co:=rfl
 cc:=rfl
 v:=zhr
 n:=hn
 p:=fun t ht=>(h t ht).1
 c:=fun t ht=>ckK t (h t ht)
 l:=fun t ht=>by obtain⟨_,a,b,he,_,_⟩ :=h t ht;rw[he];simp
 g:=gK tu hn h
 gc:=fun h=>by simp[rK]at h
def coC:F:= .sl 3 [[.s [97],.i .i64 1,.b false],[.s [98],.i .i64 1,.b false]]
def rC(tu:List (List Int×List F)):Rl:=⟨[67],true,coC,tu⟩
def TuC(t:List Int×List F):Prop:=PPp t.2/\∃a b:Int,t.1=[a,b]
def ckC(t:List Int×List F)(h:TuC t):∃e,Ans pr 94 [.ag [.s [67],.b true,coC],.ag (tuF t)] (.i .i64 e):=by
 obtain⟨hp,a,b,he⟩ :=h;obtain⟨vs,p⟩ :=t;simp only at he;subst he;exact allL (P:=fun p=>∃e,Ans pr 94 [.ag [.s [67],.b true,coC],.ag (tuF ([a,b],p))] (.i .i64 e)) (l:=PPl) ⟨⟨_,ctC0 a b⟩,⟨_,ctC1 a b⟩,⟨_,ctC2 a b⟩,⟨_,ctC3 a b⟩,⟨_,ctC4 a b⟩,⟨_,ctC5 a b⟩,⟨_,ctC6 a b⟩,⟨_,ctC7 a b⟩,trivial⟩ p hp
def gC(tu:List (List Int×List F))(hn:tu.length<=3)(h:∀t∈tu,TuC t):∃B:List (List Nat),Ans pr 115 [.ag (rlF (rC tu))] (zfW B)/\B.length<=3/\∀b∈B,b.length<=3/\∀i∈b,i<tu.length:=by
 exact⟨[],grC _,by simp,by simp⟩
theorem okC(tu:List (List Int×List F))(hn:tu.length<=3)(h:∀t∈tu,TuC t):zd7 SSp PPp (rC tu) where
 co:=rfl
 cc:=rfl
 v:=zhs
 n:=hn
 p:=fun t ht=>(h t ht).1
 c:=fun t ht=>ckC t (h t ht)
 l:=fun t ht=>by obtain⟨_,a,b,he⟩ :=h t ht;rw[he];simp
 g:=gC tu hn h
 gc:=fun _=>grC _
end Go.Proofs.YtkcnnkncapiohaaGreatDoor
end
section
namespace Go.Proofs.YtkcnnkncapiohaaGreatDoor
open Go Go.Vse Go.Vse.Sm
def rb(r:Nat)(b:UInt8):UInt8:=if b=64 then UInt8.ofNat (49+r)else b
def rb_no{p:Str}(h:p.all (· != 64)=true)(r:Nat):p.map (rb r)=p:=by
  refine (Z68 fun b hb=> ?_).trans (List.map_id p);have:=Z50.1 h b hb;have h2:¬b=64:=by simpa using this
  simp[rb,h2]
def cq0:CQ:=⟨[⟨[82],false,[.var [120],.var [121]]⟩],[],false,false⟩
def cq1:CQ:=⟨[⟨[82],false,[.var [120],.var [121]]⟩,⟨[83],false,[.var [121]]⟩],[],false,false⟩
def cq2:CQ:=⟨[⟨[82],false,[.var [120],.var [121]]⟩,⟨[83],false,[.var [120]]⟩],[],false,false⟩
def cq3:CQ:=⟨[⟨[82],false,[.var [120],.var [121]]⟩,⟨[75],false,[.var [121],.var [122]]⟩],[],false,false⟩
def cq4:CQ:=⟨[⟨[75],false,[.var [120],.var [121]]⟩,⟨[83],false,[.var [121]]⟩],[],false,false⟩
def cq5:CQ:=⟨[⟨[82],false,[.var [120],.var [121]]⟩,⟨[82],false,[.var [121],.var [122]]⟩],[],false,false⟩
def cq6:CQ:=⟨[⟨[82],false,[.var [120],.var [121]]⟩,⟨[82],false,[.var [121],.var [120]]⟩],[],false,false⟩
def cq7:CQ:=⟨[⟨[67],false,[.var [120],.var [121]]⟩,⟨[82],false,[.var [121],.var [122]]⟩],[],false,false⟩
def cq8:CQ:=⟨[⟨[82],false,[.var [120],.var [121]]⟩,⟨[83],true,[.var [121]]⟩],[],false,false⟩
def cq9:CQ:=⟨[⟨[83],false,[.var [120]]⟩,⟨[82],true,[.var [120],.cst 1]⟩],[],false,false⟩
def zr1:CQ:=⟨[⟨[83],false,[.var [120]]⟩,⟨[82],true,[.var [120],.cst 2]⟩],[],false,false⟩
def zr2:CQ:=⟨[⟨[83],false,[.var [120]]⟩,⟨[82],true,[.var [120],.cst 3]⟩],[],false,false⟩
def zr3:CQ:=⟨[⟨[67],false,[.var [120],.var [121]]⟩,⟨[83],false,[.var [121]]⟩,⟨[75],true,[.var [120],.var [121]]⟩],[],false,false⟩
def zr4:CQ:=⟨[⟨[82],false,[.var [120],.var [121]]⟩,⟨[83],false,[.var [120]]⟩,⟨[83],false,[.var [121]]⟩],[],false,false⟩
def zr5:CQ:=⟨[⟨[75],false,[.var [120],.var [121]]⟩,⟨[75],false,[.var [122],.var [121]]⟩],[],false,false⟩
def zr7:CQ:=⟨[⟨[82],false,[.var [120],.cst 1]⟩],[],false,false⟩
def zr8:CQ:=⟨[⟨[82],false,[.var [120],.cst 2]⟩],[],false,false⟩
def zr9:CQ:=⟨[⟨[82],false,[.var [120],.cst 3]⟩],[],false,false⟩
def zsa:CQ:=⟨[⟨[83],false,[.var [120]]⟩,⟨[75],false,[.var [120],.cst 1]⟩],[],false,false⟩
def zsb:CQ:=⟨[⟨[83],false,[.var [120]]⟩,⟨[75],false,[.var [120],.cst 2]⟩],[],false,false⟩
def zsc:CQ:=⟨[⟨[83],false,[.var [120]]⟩,⟨[75],false,[.var [120],.cst 3]⟩],[],false,false⟩
def zsd:CQ:=⟨[⟨[82],false,[.var [120],.var [121]]⟩],[⟨3,.var [120],.var [121]⟩],false,false⟩
def zsh:CQ:=⟨[⟨[82],false,[.var [120],.var [121]]⟩,⟨[83],false,[.var [122]]⟩],[⟨2,.var [121],.var [122]⟩],false,false⟩
def zsi:CQ:=⟨[⟨[83],false,[.var [120]]⟩,⟨[83],false,[.var [121]]⟩],[⟨4,.var [120],.var [121]⟩],false,false⟩
def zsj:CQ:=⟨[⟨[67],false,[.var [120],.var [121]]⟩,⟨[82],true,[.var [120],.var [121]]⟩],[],false,false⟩
def zsk:CQ:=⟨[⟨[82],false,[.var [120],.var [120]]⟩],[],false,false⟩
def zsl:CQ:=⟨[⟨[83],false,[.var [120]]⟩],[⟨1,.var [120],.cst 1⟩],false,false⟩
def zsm:CQ:=⟨[⟨[83],false,[.var [120]]⟩],[⟨1,.var [120],.cst 2⟩],false,false⟩
def zsp:CQ:=⟨[⟨[83],false,[.var [120]]⟩],[⟨1,.var [120],.cst 3⟩],false,false⟩
def zsr:CQ:=⟨[⟨[75],false,[.var [120],.var [121]]⟩,⟨[82],false,[.var [121],.var [122]]⟩,⟨[83],false,[.var [122]]⟩],[],false,false⟩
def zss:CQ:=⟨[⟨[82],false,[.var [120],.var [121]]⟩,⟨[82],false,[.var [120],.var [122]]⟩],[⟨3,.var [121],.var [122]⟩],false,false⟩
def zsv:CQ:=⟨[⟨[75],false,[.var [120],.cst 1]⟩,⟨[67],false,[.var [121],.var [120]]⟩],[],false,false⟩
def zsw:CQ:=⟨[⟨[75],false,[.var [120],.cst 2]⟩,⟨[67],false,[.var [121],.var [120]]⟩],[],false,false⟩
def zsz:CQ:=⟨[⟨[75],false,[.var [120],.cst 3]⟩,⟨[67],false,[.var [121],.var [120]]⟩],[],false,false⟩
def zsA:CQ:=⟨[⟨[82],false,[.var [120],.var [121]]⟩,⟨[82],false,[.var [120],.var [122]]⟩],[],false,false⟩
def zsB:CQ:=⟨[⟨[82],false,[.var [120],.var [121]]⟩,⟨[82],false,[.var [122],.var [121]]⟩,⟨[83],false,[.var [122]]⟩],[],false,false⟩
def zsD:CQ:=⟨[⟨[83],false,[.var [120]]⟩],[],false,false⟩
def zsE:CQ:=⟨[⟨[82],false,[.var [120],.var [121]]⟩,⟨[82],false,[.var [121],.var [122]]⟩,⟨[82],false,[.var [120],.var [120]]⟩],[],false,false⟩
def CQl:List CQ:=[cq0,cq1,cq2,cq3,cq4,cq5,cq6,cq7,cq8,cq9,zr1,zr2,zr3,zr4,zr5,zr7,zr8,zr9,zsa,zsb,zsc,zsd,zsh,zsi,zsj,zsk,zsl,zsm,zsp,zsr,zss,zsv,zsw,zsz,zsA,zsB,zsD,zsE]
def pa0:Str:=[82,40,120,44,32,121,41]
def pa1:Str:=[82,40,120,44,32,121,41,44,32,83,40,121,41]
def pa2:Str:=[82,40,120,44,32,121,41,44,32,83,40,120,41]
def pa3:Str:=[82,40,120,44,32,121,41,44,32,75,40,121,44,32,122,41]
def pa4:Str:=[75,40,120,44,32,121,41,44,32,83,40,121,41]
def pa5:Str:=[82,40,120,44,32,121,41,44,32,82,40,121,44,32,122,41]
def pa6:Str:=[82,40,120,44,32,121,41,44,32,82,40,121,44,32,120,41]
def pa7:Str:=[67,40,120,44,32,121,41,44,32,82,40,121,44,32,122,41]
def pa8:Str:=[82,40,120,44,32,121,41,44,32,110,111,116,32,83,40,121,41]
def pa9:Str:=[83,40,120,41,44,32,110,111,116,32,82,40,120,44,32,64,41]
def zHX:Str:=[67,40,120,44,32,121,41,44,32,83,40,121,41,44,32,110,111,116,32,75,40,120,44,32,121,41]
def zCI:Str:=[82,40,120,44,32,121,41,44,32,83,40,120,41,44,32,83,40,121,41]
def zCJ:Str:=[75,40,120,44,32,121,41,44,32,75,40,122,44,32,121,41]
def zCK:Str:=[82,40,120,44,32,64,41]
def zCL:Str:=[83,40,120,41,44,32,75,40,120,44,32,64,41]
def zHY:Str:=[82,40,120,44,32,121,41,44,32,120,32,60,32,121]
def zHZ:Str:=[82,40,120,44,32,121,41,44,32,83,40,122,41,44,32,121,32,33,61,32,122]
def zH0:Str:=[83,40,120,41,44,32,83,40,121,41,44,32,120,32,60,61,32,121]
def zH1:Str:=[67,40,120,44,32,121,41,44,32,110,111,116,32,82,40,120,44,32,121,41]
def zCM:Str:=[82,40,120,44,32,120,41]
def zH2:Str:=[83,40,120,41,44,32,120,32,61,32,64]
def zCO:Str:=[75,40,120,44,32,121,41,44,32,82,40,121,44,32,122,41,44,32,83,40,122,41]
def zH3:Str:=[82,40,120,44,32,121,41,44,32,82,40,120,44,32,122,41,44,32,121,32,60,32,122]
def zH5:Str:=[75,40,120,44,32,64,41,44,32,67,40,121,44,32,120,41]
def pa24:Str:=[82,40,120,44,32,121,41,44,32,82,40,120,44,32,122,41]
def pa25:Str:=[82,40,120,44,32,121,41,44,32,82,40,122,44,32,121,41,44,32,83,40,122,41]
def pa26:Str:=[83,40,120,41]
def pa27:Str:=[82,40,120,44,32,121,41,44,32,82,40,121,44,32,122,41,44,32,82,40,120,44,32,120,41]
def paL:List (List F):=[[.s pa0],[.s pa1],[.s pa2],[.s pa3],[.s pa4],[.s pa5],[.s pa6],[.s pa7],[.s pa8],[.s pa9],[.s zHX],[.s zCI],[.s zCJ],[.s zCK],[.s zCL],[.s zHY],[.s zHZ],[.s zH0],[.s zH1],[.s zCM],[.s zH2],[.s zCO],[.s zH3],[.s zH5]]
def poL:List (List F):=[[.s pa0],[.s pa1],[.s pa2],[.s pa3],[.s pa4],[.s pa5],[.s pa6],[.s pa7],[.s zCI],[.s zCJ],[.s zCK],[.s zCL],[.s zCM],[.s zCO],[.s pa24],[.s pa25],[.s pa26],[.s pa27]]
def ans69:Ans pr 69 [] (.sl 1 paL):=Qs66
def ans71:Ans pr 71 [] (.sl 1 poL):=Qs67
def ans11:Ans pr 11 [] (.b true):=Qs610
def Rd(p:Str)(r:Nat):Prop:=∃c∈CQl,Ans pr 25 [.s (p.map (rb r))] (.tu [.ag [.nils,.sl 2 [cqF c]],.i .i64 0])
def Rds(p:Str):Prop:=p≠[]/\p.length<1000/\∀r,r<3->Rd p r
def RdX(x:List F):Prop:=∃p,x=[.s p]/\Rds p
def qa{fs gs:List F}{x y:F}(h:Ans pr 25 fs x)(e1:fs=gs)(e2:x=y):Ans pr 25 gs y:=by rw[<-e1,<-e2];exact h
def rn{p:Str}{fs:List F}{x:F}(h1:p≠[])(h2:p.length<1000)(h:p.all (· != 64)=true){c:CQ}(n:Nat)(hc:CQl[n]? =some c)(q:Ans pr 25 fs x)(e1:fs=[.s p])(e2:x= .tu [.ag [.nils,.sl 2 [cqF c]],.i .i64 0]):RdX [.s p]:=
  ⟨p,rfl,h1,h2,fun r _=>⟨c,mg n hc,by rw[rb_no h];exact qa q e1 e2⟩⟩
def r3{p:Str}(h1:p≠[])(h2:p.length<1000)(a:Rd p 0)(b:Rd p 1)(c:Rd p 2):RdX [.s p]:=⟨p,rfl,h1,h2,fun r hr=>match r,hr with
 |0,_=>a
 |1,_=>b
 |2,_=>c⟩
def rd0:RdX [.s pa0]:=rn (by simp[pa0]) (by decide) (by decide) (c:=cq0) 0 rfl Qs260 (by kernel_rfl) (by kernel_rfl)
def rd1:RdX [.s pa1]:=rn (by simp[pa1]) (by decide) (by decide) (c:=cq1) 1 rfl Qs264 (by kernel_rfl) (by kernel_rfl)
def rd2:RdX [.s pa2]:=rn (by simp[pa2]) (by decide) (by decide) (c:=cq2) 2 rfl Qs266 (by kernel_rfl) (by kernel_rfl)
def rd3:RdX [.s pa3]:=rn (by simp[pa3]) (by decide) (by decide) (c:=cq3) 3 rfl Qs272 (by kernel_rfl) (by kernel_rfl)
def rd4:RdX [.s pa4]:=rn (by simp[pa4]) (by decide) (by decide) (c:=cq4) 4 rfl Qs274 (by kernel_rfl) (by kernel_rfl)
def rd5:RdX [.s pa5]:=rn (by simp[pa5]) (by decide) (by decide) (c:=cq5) 5 rfl Qs276 (by kernel_rfl) (by kernel_rfl)
def rd6:RdX [.s pa6]:=rn (by simp[pa6]) (by decide) (by decide) (c:=cq6) 6 rfl Qs278 (by kernel_rfl) (by kernel_rfl)
def rd7:RdX [.s pa7]:=rn (by simp[pa7]) (by decide) (by decide) (c:=cq7) 7 rfl Qs282 (by kernel_rfl) (by kernel_rfl)
def rd8:RdX [.s pa8]:=rn (by simp[pa8]) (by decide) (by decide) (c:=cq8) 8 rfl Qs289 (by kernel_rfl) (by kernel_rfl)
def rd9:RdX [.s pa9]:=r3 (by simp[pa9]) (by decide) ⟨cq9,mg 9 rfl,qa Qs303 (by kernel_rfl) (by kernel_rfl)⟩ ⟨zr1,mg 10 rfl,qa Qs321 (by kernel_rfl) (by kernel_rfl)⟩ ⟨zr2,mg 11 rfl,qa Qs339 (by kernel_rfl) (by kernel_rfl)⟩
def rd10:RdX [.s zHX]:=rn (by simp[zHX]) (by decide) (by decide) (c:=zr3) 12 rfl Qs341 (by kernel_rfl) (by kernel_rfl)
def rd11:RdX [.s zCI]:=rn (by simp[zCI]) (by decide) (by decide) (c:=zr4) 13 rfl Qs343 (by kernel_rfl) (by kernel_rfl)
def rd12:RdX [.s zCJ]:=rn (by simp[zCJ]) (by decide) (by decide) (c:=zr5) 14 rfl Qs345 (by kernel_rfl) (by kernel_rfl)
def rd13:RdX [.s zCK]:=r3 (by simp[zCK]) (by decide) ⟨zr7,mg 15 rfl,qa Qs349 (by kernel_rfl) (by kernel_rfl)⟩ ⟨zr8,mg 16 rfl,qa Qs353 (by kernel_rfl) (by kernel_rfl)⟩ ⟨zr9,mg 17 rfl,qa Qs357 (by kernel_rfl) (by kernel_rfl)⟩
def rd14:RdX [.s zCL]:=r3 (by simp[zCL]) (by decide) ⟨zsa,mg 18 rfl,qa Qs361 (by kernel_rfl) (by kernel_rfl)⟩ ⟨zsb,mg 19 rfl,qa Qs365 (by kernel_rfl) (by kernel_rfl)⟩ ⟨zsc,mg 20 rfl,qa Qs369 (by kernel_rfl) (by kernel_rfl)⟩
def rd15:RdX [.s zHY]:=rn (by simp[zHY]) (by decide) (by decide) (c:=zsd) 21 rfl Qs373 (by kernel_rfl) (by kernel_rfl)
def rd16:RdX [.s zHZ]:=rn (by simp[zHZ]) (by decide) (by decide) (c:=zsh) 22 rfl Qs377 (by kernel_rfl) (by kernel_rfl)
def rd17:RdX [.s zH0]:=rn (by simp[zH0]) (by decide) (by decide) (c:=zsi) 23 rfl Qs379 (by kernel_rfl) (by kernel_rfl)
def rd18:RdX [.s zH1]:=rn (by simp[zH1]) (by decide) (by decide) (c:=zsj) 24 rfl Qs381 (by kernel_rfl) (by kernel_rfl)
def rd19:RdX [.s zCM]:=rn (by simp[zCM]) (by decide) (by decide) (c:=zsk) 25 rfl Qs383 (by kernel_rfl) (by kernel_rfl)
def rd20:RdX [.s zH2]:=r3 (by simp[zH2]) (by decide) ⟨zsl,mg 26 rfl,qa Qs389 (by kernel_rfl) (by kernel_rfl)⟩ ⟨zsm,mg 27 rfl,qa Qs393 (by kernel_rfl) (by kernel_rfl)⟩ ⟨zsp,mg 28 rfl,qa Qs397 (by kernel_rfl) (by kernel_rfl)⟩
def rd21:RdX [.s zCO]:=rn (by simp[zCO]) (by decide) (by decide) (c:=zsr) 29 rfl Qs399 (by kernel_rfl) (by kernel_rfl)
def rd22:RdX [.s zH3]:=rn (by simp[zH3]) (by decide) (by decide) (c:=zss) 30 rfl Qs401 (by kernel_rfl) (by kernel_rfl)
def rd23:RdX [.s zH5]:=r3 (by simp[zH5]) (by decide) ⟨zsv,mg 31 rfl,qa Qs405 (by kernel_rfl) (by kernel_rfl)⟩ ⟨zsw,mg 32 rfl,qa Qs409 (by kernel_rfl) (by kernel_rfl)⟩ ⟨zsz,mg 33 rfl,qa Qs413 (by kernel_rfl) (by kernel_rfl)⟩
def rd24:RdX [.s pa24]:=rn (by simp[pa24]) (by decide) (by decide) (c:=zsA) 34 rfl Qs415 (by kernel_rfl) (by kernel_rfl)
def rd25:RdX [.s pa25]:=rn (by simp[pa25]) (by decide) (by decide) (c:=zsB) 35 rfl Qs417 (by kernel_rfl) (by kernel_rfl)
def rd26:RdX [.s pa26]:=rn (by simp[pa26]) (by decide) (by decide) (c:=zsD) 36 rfl Qs419 (by kernel_rfl) (by kernel_rfl)
def rd27:RdX [.s pa27]:=rn (by simp[pa27]) (by decide) (by decide) (c:=zsE) 37 rfl Qs421 (by kernel_rfl) (by kernel_rfl)
def rdA:∀x∈paL,RdX x:=allL (P:=RdX) (l:=paL) ⟨rd0,rd1,rd2,rd3,rd4,rd5,rd6,rd7,rd8,rd9,rd10,rd11,rd12,rd13,rd14,rd15,rd16,rd17,rd18,rd19,rd20,rd21,rd22,rd23,trivial⟩
def rdO:∀x∈poL,RdX x:=allL (P:=RdX) (l:=poL) ⟨rd0,rd1,rd2,rd3,rd4,rd5,rd6,rd7,rd11,rd12,rd13,rd14,rd19,rd21,rd24,rd25,rd26,rd27,trivial⟩
def vlK{c:CQ}(h:(vrs c).all (fun x=>decide (x.length<1000))=true):∀x∈vrs c,x.length<1000:=fun x hx=>by simpa using Z50.1 h x hx
def cg0:CqN 1 cq0:=⟨by simp[cq0,zb2,zaO],by simp[cq0,zb8,zaO],by decide,by decide,by simp[cq0],vlK (by kernel_rfl)⟩
def cg1:CqN 1 cq1:=⟨by simp[cq1,zb2,zaO],by simp[cq1,zb8,zaO],by decide,by decide,by simp[cq1],vlK (by kernel_rfl)⟩
def cg2:CqN 1 cq2:=⟨by simp[cq2,zb2,zaO],by simp[cq2,zb8,zaO],by decide,by decide,by simp[cq2],vlK (by kernel_rfl)⟩
def cg3:CqN 1 cq3:=⟨by simp[cq3,zb2,zaO],by simp[cq3,zb8,zaO],by decide,by decide,by simp[cq3],vlK (by kernel_rfl)⟩
def cg4:CqN 1 cq4:=⟨by simp[cq4,zb2,zaO],by simp[cq4,zb8,zaO],by decide,by decide,by simp[cq4],vlK (by kernel_rfl)⟩
def cg5:CqN 1 cq5:=⟨by simp[cq5,zb2,zaO],by simp[cq5,zb8,zaO],by decide,by decide,by simp[cq5],vlK (by kernel_rfl)⟩
def cg6:CqN 1 cq6:=⟨by simp[cq6,zb2,zaO],by simp[cq6,zb8,zaO],by decide,by decide,by simp[cq6],vlK (by kernel_rfl)⟩
def cg7:CqN 1 cq7:=⟨by simp[cq7,zb2,zaO],by simp[cq7,zb8,zaO],by decide,by decide,by simp[cq7],vlK (by kernel_rfl)⟩
def cg8:CqN 1 cq8:=⟨by simp[cq8,zb2,zaO],by simp[cq8,zb8,zaO],by decide,by decide,by simp[cq8],vlK (by kernel_rfl)⟩
def cg9:CqN 1 cq9:=⟨by simp[cq9,zb2,zaO],by simp[cq9,zb8,zaO],by decide,by decide,by simp[cq9],vlK (by kernel_rfl)⟩
def cg10:CqN 1 zr1:=⟨by simp[zr1,zb2,zaO],by simp[zr1,zb8,zaO],by decide,by decide,by simp[zr1],vlK (by kernel_rfl)⟩
def cg11:CqN 1 zr2:=⟨by simp[zr2,zb2,zaO],by simp[zr2,zb8,zaO],by decide,by decide,by simp[zr2],vlK (by kernel_rfl)⟩
def cg12:CqN 1 zr3:=⟨by simp[zr3,zb2,zaO],by simp[zr3,zb8,zaO],by decide,by decide,by simp[zr3],vlK (by kernel_rfl)⟩
def cg13:CqN 1 zr4:=⟨by simp[zr4,zb2,zaO],by simp[zr4,zb8,zaO],by decide,by decide,by simp[zr4],vlK (by kernel_rfl)⟩
def cg14:CqN 1 zr5:=⟨by simp[zr5,zb2,zaO],by simp[zr5,zb8,zaO],by decide,by decide,by simp[zr5],vlK (by kernel_rfl)⟩
def cg15:CqN 1 zr7:=⟨by simp[zr7,zb2,zaO],by simp[zr7,zb8,zaO],by decide,by decide,by simp[zr7],vlK (by kernel_rfl)⟩
def cg16:CqN 1 zr8:=⟨by simp[zr8,zb2,zaO],by simp[zr8,zb8,zaO],by decide,by decide,by simp[zr8],vlK (by kernel_rfl)⟩
def cg17:CqN 1 zr9:=⟨by simp[zr9,zb2,zaO],by simp[zr9,zb8,zaO],by decide,by decide,by simp[zr9],vlK (by kernel_rfl)⟩
def cg18:CqN 1 zsa:=⟨by simp[zsa,zb2,zaO],by simp[zsa,zb8,zaO],by decide,by decide,by simp[zsa],vlK (by kernel_rfl)⟩
def cg19:CqN 1 zsb:=⟨by simp[zsb,zb2,zaO],by simp[zsb,zb8,zaO],by decide,by decide,by simp[zsb],vlK (by kernel_rfl)⟩
def cg20:CqN 1 zsc:=⟨by simp[zsc,zb2,zaO],by simp[zsc,zb8,zaO],by decide,by decide,by simp[zsc],vlK (by kernel_rfl)⟩
def cg21:CqN 1 zsd:=⟨by simp[zsd,zb2,zaO],by simp[zsd,zb8,zaO],by decide,by decide,by simp[zsd],vlK (by kernel_rfl)⟩
def cg22:CqN 1 zsh:=⟨by simp[zsh,zb2,zaO],by simp[zsh,zb8,zaO],by decide,by decide,by simp[zsh],vlK (by kernel_rfl)⟩
def cg23:CqN 1 zsi:=⟨by simp[zsi,zb2,zaO],by simp[zsi,zb8,zaO],by decide,by decide,by simp[zsi],vlK (by kernel_rfl)⟩
def cg24:CqN 1 zsj:=⟨by simp[zsj,zb2,zaO],by simp[zsj,zb8,zaO],by decide,by decide,by simp[zsj],vlK (by kernel_rfl)⟩
def cg25:CqN 1 zsk:=⟨by simp[zsk,zb2,zaO],by simp[zsk,zb8,zaO],by decide,by decide,by simp[zsk],vlK (by kernel_rfl)⟩
def cg26:CqN 1 zsl:=⟨by simp[zsl,zb2,zaO],by simp[zsl,zb8,zaO],by decide,by decide,by simp[zsl],vlK (by kernel_rfl)⟩
def cg27:CqN 1 zsm:=⟨by simp[zsm,zb2,zaO],by simp[zsm,zb8,zaO],by decide,by decide,by simp[zsm],vlK (by kernel_rfl)⟩
def cg28:CqN 1 zsp:=⟨by simp[zsp,zb2,zaO],by simp[zsp,zb8,zaO],by decide,by decide,by simp[zsp],vlK (by kernel_rfl)⟩
def cg29:CqN 1 zsr:=⟨by simp[zsr,zb2,zaO],by simp[zsr,zb8,zaO],by decide,by decide,by simp[zsr],vlK (by kernel_rfl)⟩
def cg30:CqN 1 zss:=⟨by simp[zss,zb2,zaO],by simp[zss,zb8,zaO],by decide,by decide,by simp[zss],vlK (by kernel_rfl)⟩
def cg31:CqN 1 zsv:=⟨by simp[zsv,zb2,zaO],by simp[zsv,zb8,zaO],by decide,by decide,by simp[zsv],vlK (by kernel_rfl)⟩
def cg32:CqN 1 zsw:=⟨by simp[zsw,zb2,zaO],by simp[zsw,zb8,zaO],by decide,by decide,by simp[zsw],vlK (by kernel_rfl)⟩
def cg33:CqN 1 zsz:=⟨by simp[zsz,zb2,zaO],by simp[zsz,zb8,zaO],by decide,by decide,by simp[zsz],vlK (by kernel_rfl)⟩
def cg34:CqN 1 zsA:=⟨by simp[zsA,zb2,zaO],by simp[zsA,zb8,zaO],by decide,by decide,by simp[zsA],vlK (by kernel_rfl)⟩
def cg35:CqN 1 zsB:=⟨by simp[zsB,zb2,zaO],by simp[zsB,zb8,zaO],by decide,by decide,by simp[zsB],vlK (by kernel_rfl)⟩
def cg36:CqN 1 zsD:=⟨by simp[zsD,zb2,zaO],by simp[zsD,zb8,zaO],by decide,by decide,by simp[zsD],vlK (by kernel_rfl)⟩
def cg37:CqN 1 zsE:=⟨by simp[zsE,zb2,zaO],by simp[zsE,zb8,zaO],by decide,by decide,by simp[zsE],vlK (by kernel_rfl)⟩
def zp4:∀c∈CQl,CqN 1 c:=allL (P:=CqN 1) (l:=CQl) ⟨cg0,cg1,cg2,cg3,cg4,cg5,cg6,cg7,cg8,cg9,cg10,cg11,cg12,cg13,cg14,cg15,cg16,cg17,cg18,cg19,cg20,cg21,cg22,cg23,cg24,cg25,cg26,cg27,cg28,cg29,cg30,cg31,cg32,cg33,cg34,cg35,cg36,cg37,trivial⟩
def okT(c:CQ)(t:Trm):Bool:=match t with
 | .cst _=>true
 | .var x=>c.as.any fun a=>!a.neg&&a.ts.any fun u=>decide (u= .var x)
def zC9(c:CQ):Bool:=(c.cs.all fun k=>okT c k.l&&okT c k.r)&&c.as.all fun b=>!b.neg||b.ts.all (okT c)
def zs5{c:CQ}{x:Str}(h:okT c (.var x)=true):∃a∈c.as,a.neg=false/\Trm.var x∈a.ts:=by
 obtain⟨a,ha,h⟩ :=Z30.1 h;rw[Z14]at h;obtain⟨u,hu,h2⟩ :=Z30.1 h.2;exact⟨a,ha,by simpa using h.1,by rw[<-of_decide_eq_true h2];exact hu⟩
def zPb{c:CQ}(h:zC9 c=true):Safe c:=by
 unfold zC9 at h;rw[Z14,Z50,Z50]at h;refine⟨fun k hk x hx=> ?_,fun b hb hn x hx=> ?_⟩
 .have h2:=h.1 k hk;rw[Z14]at h2;rcases hx with hx|hx
  .rw[hx]at h2;exact zs5 h2.1
  .rw[hx]at h2;exact zs5 h2.2
 .have h2:=h.2 b hb;rw[hn,Z89,Bool.false_or,Z50]at h2;exact zs5 (h2 _ hx)
def sfAll:∀c∈CQl,Safe c:=fun c hc=>zPb (Z50.1 (by kernel_rfl:CQl.all zC9=true) c hc)
def zDn:∀c∈CQl,(vrs c).length<=8:=fun c hc=>of_decide_eq_true (Z50.1 (by kernel_rfl:CQl.all (fun c=>decide ((vrs c).length<=8))=true) c hc)
end Go.Proofs.YtkcnnkncapiohaaGreatDoor
end
section
namespace Go.Proofs.YtkcnnkncapiohaaGreatDoor
open Go Go.Vse Go.Vse.Sm
def fn29:pr.fn 29=some g29:=by kernel_rfl
def zgM(a:Int)(m:Nat)(hm:m<2147483648):∃r:Nat,r<=m/\zaN .and (.i .i64 a) (.i .i64 m)=some (.i .i64 r):=by
 refine⟨(BitVec.ofInt 64 a&&& BitVec.ofInt 64 m).toNat,?_,?_⟩
 .rw[BitVec.toNat_and];refine Z3 Z203 ?_;rw[BitVec.toNat_ofInt];omega
 .have hle:(BitVec.ofInt 64 a&&& BitVec.ofInt 64 m).toNat<=m:=by
   rw[BitVec.toNat_and];refine Z3 Z203 ?_;rw[BitVec.toNat_ofInt];omega
  have e:zaN .and (.i .i64 a) (.i .i64 m)=some (.i .i64 (IntKind.i64.wrap ((BitVec.ofInt 64 a&&& BitVec.ofInt 64 m).toNat:Int))):=rfl;rw[e,wrap_i64 _ (by omega) (by omega)]
def zc1(x:F):Prop:=x= .nils\/∃zs:List Int,x= .sl 1 (zs.map fun z=>[.i .i64 z])
def zcX(a b:Nat)(hb:b≠0):zaN .rem (.i .i64 a) (.i .i64 b)=some (.i .i64 ((a%b:Nat):Int)):=by
 rw[zNm _ _ (by omega)];rfl
def fn28:pr.fn 28=some g28:=by kernel_rfl
def fn70:pr.fn 70=some g70:=by kernel_rfl
def fn13:pr.fn 13=some g13:=by kernel_rfl
def zS9(f:A->Option D)(x:A):(O.s2b x).res f=(f x).bind fun y=>some (.s2b y):=rfl
def zSV(f:A->Option D)(x:A):(O.b2s x).res f=(f x).bind fun y=>some (.b2s y):=rfl
def o_s2b{pr:Pr}{s:St}{Q:St->Prop}{dst:Option Nat}{l:List Go.Vse.Op}{x:A}:wpO pr (⟨dst,none,.s2b x⟩ ::l) s Q↔oB (((O.s2b x).res (zae s.tm)).bind (opv s.h.get s.c)) fun r=>zaC r.c r.wr=true/\wpO pr l (s.aft dst r.d r.wr r.c) Q:=zey rfl
def o_b2s{pr:Pr}{s:St}{Q:St->Prop}{dst:Option Nat}{l:List Go.Vse.Op}{x:A}:wpO pr (⟨dst,none,.b2s x⟩ ::l) s Q↔oB (((O.b2s x).res (zae s.tm)).bind (opv s.h.get s.c)) fun r=>zaC r.c r.wr=true/\wpO pr l (s.aft dst r.d r.wr r.c) Q:=zey rfl
def byE(l:Str):List (List D):=l.map fun x=>[D.f (.i .u8 x.toNat)]
def v_s2b{h:Nat->Option Ob}{c:Nat}{l:Str}(hl:l≠[]):opv h c (.s2b (.f (.s l)))=some {d:= .sl c 0 l.length 1 l.length false,wr:=[(c,some (.arr 1 0 (byE l)))],c:=c+1}:=by
 simp[opv,hl,byE]
theorem zJC:∀l:Str,zdN (byE l)=some l
 |[]=>rfl
 |x::l=>by
  have:=zJC l;simp only[byE,Z10,zdN]at this|-;rw[this];simp
def v_b2s{h:Nat->Option Ob}{c id len lim:Nat}{ex:Bool}{l:Str}(hg:h id=some (.arr 1 0 (byE l)))(hl:l.length=len):opv h c (.b2s (.sl id 0 len 1 lim ex))=some {d:= .f (.s l),rd:=[id],c:=c}:=by
 have h1:(byE l).length=l.length:=by simp[byE]
 have h2:elemsOf 1 h (.sl id 0 len 1 lim ex)=some (byE l,[id]):=by
  rw[zka,hg,zcE,zgT,Z51 ⟨rfl,rfl,by omega⟩,Z34,<-hl,<-h1,Z7]
 simp only[opv,h2,zJC]
def zgi(a b:Nat)(hb:b≠0)(ha:a<1000000):zaN .quo (.i .i64 a) (.i .i64 b)=some (.i .i64 ((a/b:Nat):Int)):=by
 have:=Nat.div_le_self a b;rw[zNl _ _ (by omega),show(a:Int).tdiv b=((a/b:Nat):Int)from rfl];generalize a/b=q at*;rw[wrap_i64 _ (by omega) (by omega)]
def zM1(a b:Nat)(ha:a<1000000)(hb:b<1000000):IntKind.i64.wrap ((a:Int)+b)=((a+b:Nat):Int):=by
 rw[wrap_i64 _ (by omega) (by omega)];omega
def ziK{x:F}(hx:zc1 x)(i:Nat)(hi:i<1000):∃n:Nat,n<100000/\Ans pr 28 [x,.i .i64 i] (.i .i64 n):=by
 obtain⟨r0,hr0,he0⟩ :=zgM i 65535 (by omega);have he0':zaN .and (.i .i64 i) (.i .i64 65535)=some (.i .i64 r0):=he0;have nil:zbj (.f .nils)=some 0:=rfl
 by_cases hz:x= .nils\/x= .sl 1 []
 .refine⟨r0,by omega,zbN fn28 ?_⟩;simp only[g28,rU];rcases hz with rfl|rfl
  .simp[rW,st0,zal,he0']
  .simp[rW,st0,zal,he0',F.d]
 .rcases hx with rfl|⟨zs,rfl⟩
  .exact absurd (.inl rfl) hz
  .have hz:zs≠[]:=fun e=>hz (.inr (by rw[e];rfl))
   have hlen:0<zs.length:=Z129.2 hz;have hn0:¬zs.length=0:=by omega
   have hni:¬((zs.length:Int)=0):=by omega
   have hmod:i%zs.length<zs.length:=Z124 _ hlen;have hrem:=zcX i zs.length hn0;have hquo:=zgi i zs.length hn0 (by omega);have hdl:i/zs.length<=i:=Nat.div_le_self _ _;generalize i%zs.length=m at hmod hrem;generalize i/zs.length=d at hquo hdl;obtain⟨r,hr,he⟩ :=zgM zs[m] 65535 (by omega);have he':zaN .and (.i .i64 zs[m]) (.i .i64 65535)=some (.i .i64 r):=he;have hx:zs[m]? =some zs[m]:=Z0 hmod;have hw:=zM1 r d (by omega) (by omega);refine⟨r+d,by omega,zbN fn28 ?_⟩;simp only[g28,rU];simp[rW,st0,zal,hni,hn0,F.d];refine zaq ?_;simp[rW,st0,zal,hrem,hquo,hmod,he',hx,hw,F.d]
def bin8(a b:Int):zaN .eql (.i .u8 a) (.i .u8 b)=some (.b (a==b)):=rfl
def zEW{R:Str}(h:R≠[]):hd8 (byE R)=true:=by
 cases R with
 |nil=>exact absurd rfl h
 |cons a l=>rfl
def JR(r z:Nat)(p:Str)(n:Nat)(s:St):Prop:=(s.tm.get 1=some (.f (.i .i64 z))/\s.tm.get 4=some (.ptr 0 2 0 0)/\s.tm.get 5=some (.sl 1 0 p.length 1 p.length false)/\s.tm.get 6=some (.f (.i .i64 n))/\s.h.get 0=some (.arr 2 0 [[.f .nils,.f .nils]])/\s.h.get 1=some (.arr 1 0 (byE ((p.take n).map (rb r)++p.drop n))))/\2<=s.c
def ans70(p:Str)(z:Nat)(c:CQ)(hp:p≠[])(hl:p.length<1000)(h:Ans pr 25 [.s (p.map (rb (z%3)))] (.tu [.ag [.nils,.sl 2 [cqF c]],.i .i64 0])):Ans pr 70 [.s p,.i .i64 z] (.ag (cqF c)):=by
 refine zbN fn70 ?_;simp only[g70,rU];have hs2b:=fun h c=>v_s2b (h:=h) (c:=c) hp
 have hrem:=zcX z 3 (by omega);rw[show((3:Nat):Int)=3 from rfl]at hrem;have hr3:z%3<3:=Z124 _ (by omega);generalize z%3=r at h hrem hr3;have q76:=fun k=>zad (k:=k) h
 have hbl:∀n,((p.take n).map (rb r)++p.drop n).length=p.length:=fun n=>by simp;omega
 simp[rW,st0,zal,o_s2b,zS9,hs2b];refine zgd p (fun(x:Unit) _=>x) () (fun n _ s=>JR r z p n s) (fun x s=>x= .exit 0/\JR r z p p.length s) ?_ ?_ _ ?_ ?_
 .rintro n a s hn - ⟨⟨h1,h4,h5,h6,g0,g1⟩,hc⟩;have hw:=zaB n (by omega);have hL:=hbl n;have hx:((p.take n).map (rb r)++p.drop n)[n]? =some p[n]:=by
   rw[Z62 (by simp;omega)];simp[hn,Z73 (Z110 hn)]
  have hnx:(p.take (n+1)).map (rb r)++p.drop (n+1)=((p.take n).map (rb r)++p.drop n).set n (rb r p[n]):=by
   have e:n - (List.map (rb r) (List.take n p)).length=0:=by simp;omega
   rw[Z112 _ _ (by simp;omega),e,Z6 hn,Z55 hn,Z20,Z32];rfl
  generalize hR:(p.take n).map (rb r)++p.drop n=R at*;have hbe:(byE R)[n]? =some [D.f (.i .u8 p[n].toNat)]:=by simp[byE,hx]
  have hbn:(byE R).length=p.length:=by simp[byE,hL]
  have hbg:∀h:n< (byE R).length,(byE R)[n]=[D.f (.i .u8 p[n].toNat)]:=fun h=>by
   rw[Z0 h]at hbe;exact Z53 hbe
  have hst:(byE R).set n [D.f (.i .u8 (rb r p[n]).toNat)]=byE (R.set n (rb r p[n])):=by
   unfold byE;rw[Z116]
  have hR0:R≠[]:=fun e=>by rw[e]at hL;simp at hL;omega
  have h81:=zEW hR0
  by_cases h64:p[n]=64
  .have hcv:IntKind.u8.wrap (49+(r:Int))=((rb r 64).toNat:Int):=by
    obtain rfl|rfl|rfl:r=0\/r=1\/r=2:=by omega
    all_goals rfl
   have hv:IntKind.i64.wrap (49+(r:Int))=49+(r:Int):=wrap_i64 _ (by omega) (by omega);rw[h64]at hbg hst hnx;have h82:=zEW (R:=R.set n (rb r 64)) (by simpa using hR0);simp[rW,h1,h4,h5,h6,g0,g1,hn,hbg,hbn,hrem,hv,hcv,bin8,hst,h81,h82];refine⟨by omega,⟨?_,?_⟩⟩
   .simp[rW,h1,h4,h5,h6,g0,g1,hw,hnx];rw[<-hnx,Z149]
   .simp[rW,hc]
  .have hne:¬((p[n].toNat:Int)=64):=fun e=>h64 (UInt8.toNat_inj.1 (by have:UInt8.toNat 64=64:=rfl;omega))
   have hrb:rb r p[n]=p[n]:=by unfold rb;rw[Z49 h64]
   rw[hrb,<-Z53 ((Z0 (by omega)).symm.trans hx),Z95]at hnx;simp[rW,h1,h4,h5,h6,g0,g1,hn,hbg,hbn,h64,bin8,hne];refine⟨?_,?_⟩
   .simp[rW,h1,h4,h5,h6,g0,g1,hw,hnx];rw[<-hnx,Z149]
   .simp[rW,hc]
 .rintro s ⟨⟨h1,h4,h5,h6,g0,g1⟩,hc⟩;simp[rW,h1,h4,h5,h6,g0,g1];refine⟨?_,?_⟩
  .simp[rW,h1,h4,h5,h6,g0,g1]
  .simp[rW,hc]
 .refine⟨?_,?_⟩
  .simp[rW]
  .simp[rW]
 .rintro x s ⟨rfl,⟨h1,h4,h5,h6,g0,g1⟩,hc⟩;rw[Z7,Z206,Z22]at g1;have hb2s:=fun(h:Nat->Option Ob) c (hg:h 1=some (.arr 1 0 (byE (p.map (rb r)))))=>v_b2s (c:=c) (lim:=p.length) (ex:=false) hg (len:=p.length) (by simp)
  have n0:¬(0=s.c):=by omega
  have n0':¬(s.c=0):=by omega
  simp only[cqE]at q76|-;simp[rW,h1,h4,h5,h6,g0,g1,o_b2s,zSV,hb2s,q76,n0,n0',zdL,zea]
def fn52:pr.fn 52=some g52:=by kernel_rfl
def fn53:pr.fn 53=some g53:=by kernel_rfl
def zva(n:Int):Ans pr 53 [.i .i64 n] (.ag (vF n)):=by
 refine zbN fn53 ?_;simp only[g53,rU];unfold vF;simp -implicitDefEqProofs [zaR,rR,apO,st0,zal]
def k31_0:Ans pr 93 [.i .i64 1,.i .i64 2] (.tu [.ag [.b false,.sl 1 [[.i .u32 1]],.sl 1 [[.i .u32 2]]],.i .i64 0]):=zaF (n:=1000) (zaM pr) (by kernel_rfl)
def k31_1:Ans pr 93 [.i .i64 1,.i .i64 3] (.tu [.ag [.b false,.sl 1 [[.i .u32 1]],.sl 1 [[.i .u32 3]]],.i .i64 0]):=zaF (n:=1000) (zaM pr) (by kernel_rfl)
def k31_2:Ans pr 93 [.i .i64 2,.i .i64 3] (.tu [.ag [.b false,.sl 1 [[.i .u32 2]],.sl 1 [[.i .u32 3]]],.i .i64 0]):=zaF (n:=1000) (zaM pr) (by kernel_rfl)
def k31_3:Ans pr 93 [.i .i64 1,.i .i64 4] (.tu [.ag [.b false,.sl 1 [[.i .u32 1]],.sl 1 [[.i .u32 4]]],.i .i64 0]):=zaF (n:=1000) (zaM pr) (by kernel_rfl)
def k31_4:Ans pr 93 [.i .i64 1,.i .i64 1] (.tu [.ag [.b false,.sl 1 [[.i .u32 1]],.sl 1 [[.i .u32 1]]],.i .i64 0]):=zaF (n:=1000) (zaM pr) (by kernel_rfl)
def k31_5:Ans pr 93 [.i .i64 0,.i .i64 1] (.tu [.ag [.b false,.nils,.sl 1 [[.i .u32 1]]],.i .i64 0]):=zaF (n:=1000) (zaM pr) (by kernel_rfl)
def k31_6:Ans pr 93 [.i .i64 3,.i .i64 5] (.tu [.ag [.b false,.sl 1 [[.i .u32 3]],.sl 1 [[.i .u32 5]]],.i .i64 0]):=zaF (n:=1000) (zaM pr) (by kernel_rfl)
def k31_7:Ans pr 93 [.i .i64 1,.i .i64 7] (.tu [.ag [.b false,.sl 1 [[.i .u32 1]],.sl 1 [[.i .u32 7]]],.i .i64 0]):=zaF (n:=1000) (zaM pr) (by kernel_rfl)
def zu9(n:Int):∃p,PPp p/\Ans pr 52 [.i .i64 n] (.ag p):=by
 obtain⟨r,hr,he⟩ :=zgM n 7 (by omega);have he':zaN .and (.i .i64 n) (.i .i64 7)=some (.i .i64 r):=he;have main:∃y,(∃p,PPp p/\y= .ag p)/\Ans pr 52 [.i .i64 n] y:=by
  refine zdR fn52 ?_;simp only[g52,rU];have hc:r=0\/r=1\/r=2\/r=3\/r=4\/r=5\/r=6\/r=7:=by omega
  rcases hc with rfl|rfl|rfl|rfl|rfl|rfl|rfl|rfl
  .have q0:=fun k=>zad (k:=k) k31_0
   simp -implicitDefEqProofs [zaR,rR,apO,st0,zal,he',q0];exact mg 0 rfl
  .have q0:=fun k=>zad (k:=k) k31_1
   simp -implicitDefEqProofs [zaR,rR,apO,st0,zal,he',q0];exact mg 1 rfl
  .have q0:=fun k=>zad (k:=k) k31_2
   simp -implicitDefEqProofs [zaR,rR,apO,st0,zal,he',q0];exact mg 2 rfl
  .have q0:=fun k=>zad (k:=k) k31_3
   simp -implicitDefEqProofs [zaR,rR,apO,st0,zal,he',q0];exact mg 3 rfl
  .have q0:=fun k=>zad (k:=k) k31_4
   simp -implicitDefEqProofs [zaR,rR,apO,st0,zal,he',q0];exact mg 4 rfl
  .have q0:=fun k=>zad (k:=k) k31_5
   simp -implicitDefEqProofs [zaR,rR,apO,st0,zal,he',q0];exact mg 5 rfl
  .have q0:=fun k=>zad (k:=k) k31_6
   simp -implicitDefEqProofs [zaR,rR,apO,st0,zal,he',q0];exact mg 6 rfl
  .have q0:=fun k=>zad (k:=k) k31_7
   simp -implicitDefEqProofs [zaR,rR,apO,st0,zal,he',q0];exact mg 7 rfl
 obtain⟨y,⟨p,hp,rfl⟩,ha⟩ :=main;exact⟨p,hp,ha⟩
end Go.Proofs.YtkcnnkncapiohaaGreatDoor
end
