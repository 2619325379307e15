/- Sums of probabilities; what is known of relations of the four schemas. Written by program. -/
import Derived.Test.YtdlcolcidohbkaaGreatDoorPf
import Derived.Test.YtdlcolcidohbkaaGreatDoorPzi
import Derived.Test.YtdlcolcidohbkaaGreatDoorPg
import Derived.Test.YtdlcolcidohbkaaGreatDoorPh
import Derived.KernelRfl
set_option linter.all false
set_option maxRecDepth 100000
set_option maxHeartbeats 4000000
noncomputable section
namespace Go.Proofs.YtdlcolcidohbkaaGreatDoor
open Go Go.Vse Go.Vse.Sm
def zaS:∀p∈PPl,Pc p:=allL (P:=Pc) (l:=PPl) (by repeat (first|exact trivial|refine And.intro ⟨_,_,_,rfl,rfl,rfl,rfl⟩ ?_))
def norm1:∀p∈PPl,Ans pr 87 [.ag p] (.ag p):=allL (P:=fun p=>Ans pr 87 [.ag p] (.ag p)) (l:=PPl) ⟨rCt (s:=(1,2)),rCt (s:=(1,3)),rCt (s:=(2,3)),rCt (s:=(1,4)),rCt (s:=(1,1)),rCt (s:=(0,1)),rCt (s:=(3,5)),rCt (s:=(1,7)),trivial⟩
def zBk{p:List F}(h:p∈PPl):∃n∈PN,p=fr n:=by
 rw[PN_l]at h;obtain⟨n,hn,rfl⟩ :=Z12.1 h;exact⟨n,hn,rfl⟩
def Dl:Nat->List (Nat×Nat)
 |0=>[(0,1)]
 |1=>D1
 |2=>D2
 |_=>DI
theorem dl_A:∀{k:Nat} {s:Nat×Nat},k<3->s∈Dl k->s∈DA
 |0,s,_,h=>by rw[Z31.1 h];exact zfG clA.1
 |1,s,_,h=>zfG (Z50.1 clA.2.1 s h)
 |2,s,_,h=>zfG (Z50.1 clA.2.2.1 s h)
 |_+3,_,h,_=>absurd h (by omega)
theorem dl_I:∀{k:Nat} {s:Nat×Nat},s∈Dl k->s∈DI
 |0,s,h=>by rw[Z31.1 h];exact zfG clA.2.2.2.1
 |1,s,h=>zfG (Z50.1 clA.2.2.2.2.1 s h)
 |2,s,h=>zfG (Z50.1 clA.2.2.2.2.2 s h)
 |_+3,_,h=>h
theorem zmr:∀{k:Nat} {s p:Nat×Nat},k<3->s∈Dl k->p∈PN->adN s p∈Dl (k+1)
 |0,s,p,_,h,hp=>by rw[Z31.1 h];exact zfG (Z50.1 cl0 p hp)
 |1,s,p,_,h,hp=>zfG (Z50.1 (Z50.1 cl1 s h) p hp)
 |2,s,p,_,h,hp=>zfG (Z50.1 (Z50.1 cl2 s h) p hp)
 |_+3,_,_,h,_,_=>absurd h (by omega)
def frP(s:Nat×Nat):Pc (fr s):=by
 obtain⟨a,b⟩ :=s;cases a<;>cases b<;>exact⟨_,_,_,rfl,rfl,rfl,rfl⟩
def SSp(k:Nat)(p:List F):Prop:=k<=3/\∃s∈Dl k,p=fr s
def PPp(p:List F):Prop:=p∈PPl
theorem zq4:zlG SSp PPp where
 z:=⟨_,⟨by omega,(0,1),Z31.2 rfl,rfl⟩,fi0⟩
 pc:=fun k p h=>by obtain⟨-,s,-,rfl⟩ :=h;exact frP s
 pp:=zaS
 add:=fun k s p hk hs hp=>by
  obtain⟨-,s,hm,rfl⟩ :=hs;obtain⟨n,hn,rfl⟩ :=zBk hp;exact⟨_,⟨by omega,_,zmr hk hm hn,rfl⟩,allL (allL uA _ (dl_A hk hm)) _ hn⟩
 prob:=fun k s h=>by
  obtain⟨-,s,hm,rfl⟩ :=h;exact⟨_,allL uI _ (dl_I hm)⟩
 norm:=norm1
def rsK(ks:List Int):List (List Nat):=(([1,2,3]:List Int).map fun k=>(List.range ks.length).filter fun i=>decide (ks[i]? =some k)).filter fun b=>!b.isEmpty
def ckB(n:Nat)(B:List (List Nat)):Bool:=decide (B.length<=3)&&((B.all fun b=>decide (b.length<=3)&&(b.all (· <n)&& !b.isEmpty))&&decide B.flatten.Nodup)
def zp6{n:Nat}{B:List (List Nat)}(h:ckB n B=true):(B.length<=3/\∀b∈B,b.length<=3/\∀i∈b,i<n)/\B.flatten.Nodup/\∀b∈B,b≠[]:=by
 simp only[ckB,Z14,Z86,Z50,Z80,List.isEmpty_eq_false_iff]at h;exact⟨⟨h.1,fun b hb=>⟨(h.2.1 b hb).1,(h.2.1 b hb).2.1⟩⟩,h.2.2,fun b hb=>(h.2.1 b hb).2.2⟩
def K2:List (Int×Int):=[(1,1),(1,2),(1,3),(2,1),(2,2),(2,3),(3,1),(3,2),(3,3)]
def K3:List (Int×Int×Int):=[(1,1,1),(1,1,2),(1,1,3),(1,2,1),(1,2,2),(1,2,3),(1,3,1),(1,3,2),(1,3,3),(2,1,1),(2,1,2),(2,1,3),(2,2,1),(2,2,2),(2,2,3),(2,3,1),(2,3,2),(2,3,3),(3,1,1),(3,1,2),(3,1,3),(3,2,1),(3,2,2),(3,2,3),(3,3,1),(3,3,2),(3,3,3)]
def k2B:(K2.all fun k=>ckB 2 (rsK [k.1,k.2]))=true:=by kernel_rfl
def k3B:(K3.all fun k=>ckB 3 (rsK [k.1,k.2.1,k.2.2]))=true:=by kernel_rfl
def grK2(a0:Int)(p00 p01 p02:F)(a1:Int)(p10 p11 p12:F):zaF (fun k=>Ans pr 82 [.ag [.s [75],.b false,kqK,.sl 4 [[v2 k.1 a0,p00,p01,p02],[v2 k.2 a1,p10,p11,p12]]]] (zcA (rsK [k.1,k.2]))) K2:=by repeat (first|exact trivial|refine And.intro rA ?_)
def grK3(a0:Int)(p00 p01 p02:F)(a1:Int)(p10 p11 p12:F)(a2:Int)(p20 p21 p22:F):zaF (fun k=>Ans pr 82 [.ag [.s [75],.b false,kqK,.sl 4 [[v2 k.1 a0,p00,p01,p02],[v2 k.2.1 a1,p10,p11,p12],[v2 k.2.2 a2,p20,p21,p22]]]] (zcA (rsK [k.1,k.2.1,k.2.2]))) K3:=by repeat (first|exact trivial|refine And.intro rA ?_)
def coR:F:= .sl 3 [[.s [97],.i .i64 1,.b false],[.s [98],.i .i64 1,.b false]]
def rH(tu:List (List Int×List F)):Rl:=⟨[82],false,coR,tu⟩
def TuR(t:List Int×List F):Prop:=PPp t.2/\∃a b:Int,t.1=[a,b]/\1<=b/\b<=3
def ckR(t:List Int×List F)(h:TuR t):∃e,Ans pr 45 [.ag [.s [82],.b false,coR],.ag (tuF t)] (.i .i64 e):=by
 obtain⟨hp,a,b,he,_,_⟩ :=h;obtain⟨vs,p⟩ :=t;simp only at he;subst he;exact allL (ctR a b) p hp
def gR(tu:List (List Int×List F))(hn:tu.length<=3)(h:∀t∈tu,TuR t):∃B:List (List Nat),Ans pr 82 [.ag (rlF (rH tu))] (zcA B)/\B.length<=3/\∀b∈B,b.length<=3/\∀i∈b,i<tu.length:=by
 match tu,hn with
 |[],_=>
  exact⟨[],grR0,by simp,by simp⟩
 |[t0],_=>
  obtain⟨hp0,a0,b0,he0,l0,k0⟩ :=h t0 (by simp);obtain⟨x0,y0,z0,hx0,_,_,_⟩ :=zaS _ hp0;obtain⟨v0,w0⟩ :=t0;simp only at he0 hx0;subst he0 hx0;exact⟨[[0]],grR1 a0 b0 x0 y0 z0,by simp,by simp⟩
 |[t0,t1],_=>
  obtain⟨hp0,a0,b0,he0,l0,k0⟩ :=h t0 (by simp);obtain⟨x0,y0,z0,hx0,_,_,_⟩ :=zaS _ hp0;obtain⟨v0,w0⟩ :=t0;simp only at he0 hx0;subst he0 hx0;obtain⟨hp1,a1,b1,he1,l1,k1⟩ :=h t1 (by simp);obtain⟨x1,y1,z1,hx1,_,_,_⟩ :=zaS _ hp1;obtain⟨v1,w1⟩ :=t1;simp only at he1 hx1;subst he1 hx1;exact⟨[[0],[1]],grR2 a0 b0 x0 y0 z0 a1 b1 x1 y1 z1,by simp,by simp⟩
 |[t0,t1,t2],_=>
  obtain⟨hp0,a0,b0,he0,l0,k0⟩ :=h t0 (by simp);obtain⟨x0,y0,z0,hx0,_,_,_⟩ :=zaS _ hp0;obtain⟨v0,w0⟩ :=t0;simp only at he0 hx0;subst he0 hx0;obtain⟨hp1,a1,b1,he1,l1,k1⟩ :=h t1 (by simp);obtain⟨x1,y1,z1,hx1,_,_,_⟩ :=zaS _ hp1;obtain⟨v1,w1⟩ :=t1;simp only at he1 hx1;subst he1 hx1;obtain⟨hp2,a2,b2,he2,l2,k2⟩ :=h t2 (by simp);obtain⟨x2,y2,z2,hx2,_,_,_⟩ :=zaS _ hp2;obtain⟨v2,w2⟩ :=t2;simp only at he2 hx2;subst he2 hx2;exact⟨[[0],[1],[2]],grR3 a0 b0 x0 y0 z0 a1 b1 x1 y1 z1 a2 b2 x2 y2 z2,by simp,by simp⟩
 |_::_::_::_::_,h=>exact absurd h (by simp)
theorem okR(tu:List (List Int×List F))(hn:tu.length<=3)(h:∀t∈tu,TuR t):zeM SSp PPp (rH tu) where
 co:=rfl
 cc:=rfl
 v:=rA
 n:=hn
 p:=fun t ht=>(h t ht).1
 c:=fun t ht=>ckR t (h t ht)
 l:=fun t ht=>by obtain⟨_,a,b,he,_,_⟩ :=h t ht;rw[he];simp
 g:=gR tu hn h
 gc:=fun h=>by simp[rH]at h
def coS:F:= .sl 3 [[.s [97],.i .i64 1,.b false]]
def rS(tu:List (List Int×List F)):Rl:=⟨[83],false,coS,tu⟩
def TuS(t:List Int×List F):Prop:=PPp t.2/\∃a:Int,t.1=[a]
def ckS(t:List Int×List F)(h:TuS t):∃e,Ans pr 45 [.ag [.s [83],.b false,coS],.ag (tuF t)] (.i .i64 e):=by
 obtain⟨hp,a,he⟩ :=h;obtain⟨vs,p⟩ :=t;simp only at he;subst he;exact allL (ctS a) p hp
def gS(tu:List (List Int×List F))(hn:tu.length<=3)(h:∀t∈tu,TuS t):∃B:List (List Nat),Ans pr 82 [.ag (rlF (rS tu))] (zcA B)/\B.length<=3/\∀b∈B,b.length<=3/\∀i∈b,i<tu.length:=by
 match tu,hn with
 |[],_=>
  exact⟨[],grS0,by simp,by simp⟩
 |[t0],_=>
  obtain⟨hp0,a0,he0⟩ :=h t0 (by simp);obtain⟨x0,y0,z0,hx0,_,_,_⟩ :=zaS _ hp0;obtain⟨v0,w0⟩ :=t0;simp only at he0 hx0;subst he0 hx0;exact⟨[[0]],grS1 a0 x0 y0 z0,by simp,by simp⟩
 |[t0,t1],_=>
  obtain⟨hp0,a0,he0⟩ :=h t0 (by simp);obtain⟨x0,y0,z0,hx0,_,_,_⟩ :=zaS _ hp0;obtain⟨v0,w0⟩ :=t0;simp only at he0 hx0;subst he0 hx0;obtain⟨hp1,a1,he1⟩ :=h t1 (by simp);obtain⟨x1,y1,z1,hx1,_,_,_⟩ :=zaS _ hp1;obtain⟨v1,w1⟩ :=t1;simp only at he1 hx1;subst he1 hx1;exact⟨[[0],[1]],grS2 a0 x0 y0 z0 a1 x1 y1 z1,by simp,by simp⟩
 |[t0,t1,t2],_=>
  obtain⟨hp0,a0,he0⟩ :=h t0 (by simp);obtain⟨x0,y0,z0,hx0,_,_,_⟩ :=zaS _ hp0;obtain⟨v0,w0⟩ :=t0;simp only at he0 hx0;subst he0 hx0;obtain⟨hp1,a1,he1⟩ :=h t1 (by simp);obtain⟨x1,y1,z1,hx1,_,_,_⟩ :=zaS _ hp1;obtain⟨v1,w1⟩ :=t1;simp only at he1 hx1;subst he1 hx1;obtain⟨hp2,a2,he2⟩ :=h t2 (by simp);obtain⟨x2,y2,z2,hx2,_,_,_⟩ :=zaS _ hp2;obtain⟨v2,w2⟩ :=t2;simp only at he2 hx2;subst he2 hx2;exact⟨[[0],[1],[2]],grS3 a0 x0 y0 z0 a1 x1 y1 z1 a2 x2 y2 z2,by simp,by simp⟩
 |_::_::_::_::_,h=>exact absurd h (by simp)
theorem okS(tu:List (List Int×List F))(hn:tu.length<=3)(h:∀t∈tu,TuS t):zeM SSp PPp (rS tu) where
 co:=rfl
 cc:=rfl
 v:=rA
 n:=hn
 p:=fun t ht=>(h t ht).1
 c:=fun t ht=>ckS t (h t ht)
 l:=fun t ht=>by obtain⟨_,a,he⟩ :=h t ht;rw[he];simp
 g:=gS tu hn h
 gc:=fun h=>by simp[rS]at h
def coK:F:= .sl 3 [[.s [107],.i .i64 1,.b true],[.s [118],.i .i64 1,.b false]]
def rK(tu:List (List Int×List F)):Rl:=⟨[75],false,coK,tu⟩
def TuK(t:List Int×List F):Prop:=PPp t.2/\∃a b:Int,t.1=[a,b]/\1<=a/\a<=3
def ckK(t:List Int×List F)(h:TuK t):∃e,Ans pr 45 [.ag [.s [75],.b false,coK],.ag (tuF t)] (.i .i64 e):=by
 obtain⟨hp,a,b,he,_,_⟩ :=h;obtain⟨vs,p⟩ :=t;simp only at he;subst he;exact allL (ctK a b) p hp
def gK(tu:List (List Int×List F))(hn:tu.length<=3)(h:∀t∈tu,TuK t):∃B:List (List Nat),Ans pr 82 [.ag (rlF (rK tu))] (zcA B)/\B.length<=3/\∀b∈B,b.length<=3/\∀i∈b,i<tu.length:=by
 match tu,hn with
 |[],_=>
  exact⟨[],grK0,by simp,by simp⟩
 |[t0],_=>
  obtain⟨hp0,a0,b0,he0,l0,k0⟩ :=h t0 (by simp);obtain⟨x0,y0,z0,hx0,_,_,_⟩ :=zaS _ hp0;obtain⟨v0,w0⟩ :=t0;simp only at he0 hx0;subst he0 hx0;exact⟨[[0]],grK1 a0 b0 x0 y0 z0,by simp,by simp⟩
 |[t0,t1],_=>
  obtain⟨hp0,a0,b0,he0,l0,k0⟩ :=h t0 (by simp);obtain⟨x0,y0,z0,hx0,_,_,_⟩ :=zaS _ hp0;obtain⟨v0,w0⟩ :=t0;simp only at he0 hx0;subst he0 hx0;obtain⟨hp1,a1,b1,he1,l1,k1⟩ :=h t1 (by simp);obtain⟨x1,y1,z1,hx1,_,_,_⟩ :=zaS _ hp1;obtain⟨v1,w1⟩ :=t1;simp only at he1 hx1;subst he1 hx1;have hm:(a0,a1)∈K2:=by
   have q0:a0=1\/a0=2\/a0=3:=by omega
   have q1:a1=1\/a1=2\/a1=3:=by omega
   rcases q0 with rfl|rfl|rfl<;>rcases q1 with rfl|rfl|rfl<;>decide
  exact⟨_,allL (grK2 b0 x0 y0 z0 b1 x1 y1 z1) _ hm,(zp6 (Z50.1 k2B _ hm)).1⟩
 |[t0,t1,t2],_=>
  obtain⟨hp0,a0,b0,he0,l0,k0⟩ :=h t0 (by simp);obtain⟨x0,y0,z0,hx0,_,_,_⟩ :=zaS _ hp0;obtain⟨v0,w0⟩ :=t0;simp only at he0 hx0;subst he0 hx0;obtain⟨hp1,a1,b1,he1,l1,k1⟩ :=h t1 (by simp);obtain⟨x1,y1,z1,hx1,_,_,_⟩ :=zaS _ hp1;obtain⟨v1,w1⟩ :=t1;simp only at he1 hx1;subst he1 hx1;obtain⟨hp2,a2,b2,he2,l2,k2⟩ :=h t2 (by simp);obtain⟨x2,y2,z2,hx2,_,_,_⟩ :=zaS _ hp2;obtain⟨v2,w2⟩ :=t2;simp only at he2 hx2;subst he2 hx2;have hm:(a0,a1,a2)∈K3:=by
   have q0:a0=1\/a0=2\/a0=3:=by omega
   have q1:a1=1\/a1=2\/a1=3:=by omega
   have q2:a2=1\/a2=2\/a2=3:=by omega
   rcases q0 with rfl|rfl|rfl<;>rcases q1 with rfl|rfl|rfl<;>rcases q2 with rfl|rfl|rfl<;>decide
  exact⟨_,allL (grK3 b0 x0 y0 z0 b1 x1 y1 z1 b2 x2 y2 z2) _ hm,(zp6 (Z50.1 k3B _ hm)).1⟩
 |_::_::_::_::_,h=>exact absurd h (by simp)
theorem okK(tu:List (List Int×List F))(hn:tu.length<=3)(h:∀t∈tu,TuK t):zeM SSp PPp (rK tu) where
 co:=rfl
 cc:=rfl
 v:=rA
 n:=hn
 p:=fun t ht=>(h t ht).1
 c:=fun t ht=>ckK t (h t ht)
 l:=fun t ht=>by obtain⟨_,a,b,he,_,_⟩ :=h t ht;rw[he];simp
 g:=gK tu hn h
 gc:=fun h=>by simp[rK]at h
def coC:F:= .sl 3 [[.s [97],.i .i64 1,.b false],[.s [98],.i .i64 1,.b false]]
def rC(tu:List (List Int×List F)):Rl:=⟨[67],true,coC,tu⟩
def TuC(t:List Int×List F):Prop:=PPp t.2/\∃a b:Int,t.1=[a,b]/\t.2=[.b false,.sl 1 [[.i .u32 1]],.sl 1 [[.i .u32 1]]]
def ckC(t:List Int×List F)(h:TuC t):∃e,Ans pr 45 [.ag [.s [67],.b true,coC],.ag (tuF t)] (.i .i64 e):=by
 obtain⟨hp,a,b,he,_⟩ :=h;obtain⟨vs,p⟩ :=t;simp only at he;subst he;exact allL (ctC a b) p hp
def gC(tu:List (List Int×List F))(hn:tu.length<=3)(h:∀t∈tu,TuC t):∃B:List (List Nat),Ans pr 82 [.ag (rlF (rC tu))] (zcA B)/\B.length<=3/\∀b∈B,b.length<=3/\∀i∈b,i<tu.length:=by
 exact⟨[],grC _,by simp,by simp⟩
theorem okC(tu:List (List Int×List F))(hn:tu.length<=3)(h:∀t∈tu,TuC t):zeM SSp PPp (rC tu) where
 co:=rfl
 cc:=rfl
 v:=rA
 n:=hn
 p:=fun t ht=>(h t ht).1
 c:=fun t ht=>ckC t (h t ht)
 l:=fun t ht=>by obtain⟨_,a,b,he,_⟩ :=h t ht;rw[he];simp
 g:=gC tu hn h
 gc:=fun _=>grC _
end Go.Proofs.YtdlcolcidohbkaaGreatDoor
