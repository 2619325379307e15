/- wide: one more comparison. -/
import Derived.Test.YtmnkdfjljkhneaaGreatPh
import Derived.KernelRfl
import Derived.IntWalk
set_option linter.all false
noncomputable section
section
namespace Go.Proofs.YtmnkdfjljkhneaaGreat
open Go Go.Vse Go.Vse.Sm
set_option maxRecDepth 100000
set_option maxHeartbeats 1000000
set_option linter.all false
theorem fn8:pr.fn 8=some g8:=by kernel_rfl
theorem fn6:pr.fn 6=some g6:=by kernel_rfl
theorem zAs(n:Int):Ans pr 8 [.i .i64 n] (.ag (vF n)):=by
 refine zcm fn8 ?_;simp only[g8,rU];simp -implicitDefEqProofs [rW,st0,zaj,vF]
structure CqW(m:Nat)(c:CQ):Prop where
 al:∀a∈c.as,zbl a/\a.ts.length≤2
 cs:∀k∈c.cs,zbn k
 av:∀a∈c.as,a.ts≠[]/\∀t∈a.ts,TmV t
 cv:∀k∈c.cs,TmV k.l/\TmV k.r
 la:c.as.length≤3
 lc:c.cs.length≤m
theorem CqN.w{c:CQ}(h:CqN 1 c):CqW 1 c:=⟨h.al,h.cs,h.av,h.cv,by have:=h.la;omega,by have:=h.lc;omega⟩
theorem CqW.up{m n:Nat}{c:CQ}(h:CqW m c)(hm:m≤n):CqW n c:=⟨h.al,h.cs,h.av,h.cv,h.la,Nat.le_trans h.lc hm⟩
theorem CqW.g{m:Nat}{c:CQ}(h:CqW m c)(hm:m≤4):CqG c:=by
 have:=h.la;have:=h.lc;exact⟨⟨⟨fun a ha=>(h.al a ha).1,h.cs,by omega,by omega⟩,by omega,fun a ha=>by have:=(h.al a ha).2;omega,by omega,fun a ha=>(h.al a ha).2⟩,fun a ha=>(h.av a ha).1⟩
theorem zzZ{t:Trm}(h:TmV t):zax t:=by
 cases t with
 |cst=>trivial
 |var s=>rcases h with rfl|rfl|rfl<;>simp[zax]
def add1(c:CQ)(x:Cm):CQ:=⟨c.as,c.cs++[x],true,c.na⟩
theorem CqW.add{m:Nat}{c:CQ}(h:CqW m c){x:Cm}(h1:TmV x.l)(h2:TmV x.r):CqW (m+1) (add1 c x):=by
 refine⟨h.al,fun k hk=> ?_,h.av,fun k hk=> ?_,h.la,by simp[add1];exact h.lc⟩
 ·rcases List.mem_append.1 hk with hk|hk
  ·exact h.cs k hk
  ·rw[List.mem_singleton.1 hk];exact⟨zzZ h1,zzZ h2⟩
 ·rcases List.mem_append.1 hk with hk|hk
  ·exact h.cv k hk
  ·rw[List.mem_singleton.1 hk];exact⟨h1,h2⟩
def CsR(h:T Ob)(B c:Nat)(d:D)(q:CQ):Prop:=d= .f (zaN q)\/∃Y ro,d= .sl Y 0 q.cs.length 9 q.cs.length false/\h.get Y=some (.arr 9 ro (q.cs.map cmD))/\q.cs≠[]/\B≤Y/\Y<c
theorem CsR.up{h h':T Ob}{B c c':Nat}{d:D}{q:CQ}(H:CsR h B c d q)(hc:c≤c')(hh:∀x,B≤x->x<c->h'.get x=h.get x):CsR h' B c' d q:=by
 rcases H with H|⟨Y,ro,h1,h2,h3,h4,h5⟩
 ·exact .inl H
 ·exact .inr ⟨Y,ro,h1,by rw[hh Y h4 h5];exact h2,h3,h4,by omega⟩
def HR(B c:Nat)(h h':T Ob):Prop:=(∀z,z<B\/c≤z->h'.get z=h.get z)/\∀z es ro els,h.get z=some (.arr es ro els)->∃ro',h'.get z=some (.arr es ro' els)
theorem CsR.hr{h h':T Ob}{B c c':Nat}{d:D}{q:CQ}(H:CsR h B c' d q)(hh:HR B c h h'):CsR h' B c' d q:=by
 rcases H with H|⟨Y,ro,h1,h2,h3,h4,h5⟩
 ·exact .inl H
 ·obtain⟨ro',e⟩ :=hh.2 Y _ _ _ h2;exact .inr ⟨Y,ro',h1,e,h3,h4,h5⟩
theorem HR.self{B c:Nat}{h:T Ob}:HR B c h h:=⟨fun _ _=>rfl,fun _ _ ro _ h=>⟨ro,h⟩⟩
def WR(h:T Ob)(N B c lim:Nat)(l:List CQ):Prop:=∃rows:List (List D),h.get N=some (.arr 2 0 rows)/\rows.length=lim/\l.length≤lim/\(∀x∈rows,x.length=2)/\N<B/\∀i (hi:i<l.length),∃dC,rows[i]? =some [.f (zaK l[i]),dC]/\CsR h B c dC l[i]
theorem zs7(q:CQ)(h:Nat->Option Ob):elemsOf 9 h (.f (zaN q))=some (q.cs.map cmD,[]):=by
 unfold zaN csF;split
 ·rename_i e;rw[e.2];rfl
 ·rw[zKm rfl,List.map_map]
  congr 2
  exact List.map_congr_left fun k _=>zkY k
def W6(P N B lim:Nat)(ex:Bool)(dh:D)(hd:List Str)(n:Int)(i:Nat)(l:List CQ)(c:Nat)(s:St):Prop:=(s.tm.get 1=some (.f (.i .i64 n))/\s.tm.get 4=some (.ptr 0 2 0 0)/\s.tm.get 5=some (.ptr P 2 0 0)/\s.tm.get 6=some (.f (.i .i64 i))/\s.h.get 0=some (.arr 2 0 [[.f .nils,.f .nils]])/\s.h.get P=some (.arr 2 0 [[dh,.sl N 0 l.length 2 lim ex]]))/\Own s.h 1 P dh (zav hd)/\1≤P/\P<B/\P≠N/\0<N/\dh.oid≠some N/\WR s.h N B c lim l/\c≤s.c/\B≤c
theorem zqv(c:CQ):(D.f (zaK c)).cells=some [.f (zaK c)]:=by
 unfold zaK Sm.asF;split
 ·rfl
 ·exact zht _ _
def u6:List (Go.Vse.Op×Nat):=[(oF 92 1 5,0),(oK 93 1 92,0),(oM 94 9,3),(oF 95 1 5,7),(oK 96 1 95,7),(oM 97 9,31),(oI 98 2 96 97,7),(oF 99 0 98,7),(oK 100 1 99,7),(oF 102 1 5,511),(oK 103 1 102,511),(oM 104 9,2047),(oI 105 2 103 104,511),(oF 106 1 105,511),(oK 107 1 106,511),(oL 109 9 8,32767),(oR 101 (.bsl 9 [.i .i64 0,.s [],.i .i64 0,.i .i64 0,.s [],.s [],.i .i64 0,.i .i64 0,.s []] 0 []),65535),(oR 108 (.app 9 104 (.t 101) (.t 107)),33279),(oR 110 (.bsf 9 [.i .i64 0,.s [],.i .i64 0,.i .i64 0,.s [],.s [],.i .i64 0,.i .i64 0,.s []] 1 [(0,(.t 109))]),229375),(oR 111 (.app 9 104 (.t 108) (.t 110)),511),(oR 112 (.bld [.nils,.nils] [(0,1,(.t 100)),(1,1,(.t 111))]),7),(oI 113 2 93 94,0),(oS 2 113 112,0)]
set_option maxHeartbeats 4000000 in
theorem u6_wd{P N B lim X j len:Nat}{ex:Bool}{dh dC:D}{rows:List (List D)}{A:CQ}{x:Cm}{Q:Ex->St->Prop}{s:St}(RN5:s.tm.get 5=some (.ptr P 2 0 0)/\s.tm.get 8=some (.ptr X 9 0 0)/\s.tm.get 9=some (.f (.i .i64 j))/\s.h.get P=some (.arr 2 0 [[dh,.sl N 0 len 2 lim ex]])/\s.h.get N=some (.arr 2 0 rows)/\s.h.get X=some (.arr 9 0 [cmD x]))(hj:j<len)(hrj:rows[j]? =some [.f (zaK A),dC])(hC:CsR s.h B s.c dC A)(hP:P<s.c)(hN:N<s.c)(hXc:X<s.c)(hPN:P≠N)(h8r:hd8 rows=false)(hcl:A.cs.length≤100)(hNX:N≠X)(hNB:N<B)
  (hK:∀s',s'.tm.get 1=s.tm.get 1->s'.tm.get 4=s.tm.get 4->s'.tm.get 5=s.tm.get 5->s'.tm.get 6=s.tm.get 6->∀Y,s.c≤Y->Y<s'.c->s'.h.get Y=some (.arr 9 0 ((A.cs++[x]).map cmD))->s'.h.get N=some (.arr 2 0 (rows.set j [.f (zaK A),.sl Y 0 (A.cs.length+1) 9 (A.cs.length+1) false]))->(∀z,z<s.c->z≠N->s'.h.get z=s.h.get z)->Q .nrm s'):WD pr u6 s (Q):=by
 obtain⟨h5,h8,h9,gP,gN,gX⟩ :=RN5;unfold u6;simp only[rU];refine zbY ?_;have hjr:j<rows.length:=(List.getElem?_eq_some_iff.1 hrj).1;have hRj:rows[j]=[.f (zaK A),dC]:=(List.getElem?_eq_some_iff.1 hrj).2;have a16P:¬(s.c+1+1+1+1+1+1+1+1+1+1+1+1+1+1+1+1=P):=by omega
 have b16P:¬(P=s.c+1+1+1+1+1+1+1+1+1+1+1+1+1+1+1+1):=by omega
 have a16N:¬(s.c+1+1+1+1+1+1+1+1+1+1+1+1+1+1+1+1=N):=by omega
 have b16N:¬(N=s.c+1+1+1+1+1+1+1+1+1+1+1+1+1+1+1+1):=by omega
 have a16X:¬(s.c+1+1+1+1+1+1+1+1+1+1+1+1+1+1+1+1=X):=by omega
 have b16X:¬(X=s.c+1+1+1+1+1+1+1+1+1+1+1+1+1+1+1+1):=by omega
 have a18P:¬(s.c+1+1+1+1+1+1+1+1+1+1+1+1+1+1+1+1+1+1=P):=by omega
 have b18P:¬(P=s.c+1+1+1+1+1+1+1+1+1+1+1+1+1+1+1+1+1+1):=by omega
 have a18N:¬(s.c+1+1+1+1+1+1+1+1+1+1+1+1+1+1+1+1+1+1=N):=by omega
 have b18N:¬(N=s.c+1+1+1+1+1+1+1+1+1+1+1+1+1+1+1+1+1+1):=by omega
 have a18X:¬(s.c+1+1+1+1+1+1+1+1+1+1+1+1+1+1+1+1+1+1=X):=by omega
 have b18X:¬(X=s.c+1+1+1+1+1+1+1+1+1+1+1+1+1+1+1+1+1+1):=by omega
 have a20P:¬(s.c+1+1+1+1+1+1+1+1+1+1+1+1+1+1+1+1+1+1+1+1=P):=by omega
 have b20P:¬(P=s.c+1+1+1+1+1+1+1+1+1+1+1+1+1+1+1+1+1+1+1+1):=by omega
 have a20N:¬(s.c+1+1+1+1+1+1+1+1+1+1+1+1+1+1+1+1+1+1+1+1=N):=by omega
 have b20N:¬(N=s.c+1+1+1+1+1+1+1+1+1+1+1+1+1+1+1+1+1+1+1+1):=by omega
 have a20X:¬(s.c+1+1+1+1+1+1+1+1+1+1+1+1+1+1+1+1+1+1+1+1=X):=by omega
 have b20X:¬(X=s.c+1+1+1+1+1+1+1+1+1+1+1+1+1+1+1+1+1+1+1+1):=by omega
 have a21P:¬(s.c+1+1+1+1+1+1+1+1+1+1+1+1+1+1+1+1+1+1+1+1+1=P):=by omega
 have b21P:¬(P=s.c+1+1+1+1+1+1+1+1+1+1+1+1+1+1+1+1+1+1+1+1+1):=by omega
 have a21N:¬(s.c+1+1+1+1+1+1+1+1+1+1+1+1+1+1+1+1+1+1+1+1+1=N):=by omega
 have b21N:¬(N=s.c+1+1+1+1+1+1+1+1+1+1+1+1+1+1+1+1+1+1+1+1+1):=by omega
 have a21X:¬(s.c+1+1+1+1+1+1+1+1+1+1+1+1+1+1+1+1+1+1+1+1+1=X):=by omega
 have b21X:¬(X=s.c+1+1+1+1+1+1+1+1+1+1+1+1+1+1+1+1+1+1+1+1+1):=by omega
 have m1:(1≤zat)=True:=zcJ (by omega);have m2:(104≤zat)=True:=zcJ (by omega);have m3:(A.cs.length+1≤zat)=True:=zcJ (by omega);have m4:((A.cs.length+1)*104≤zat)=True:=zcJ (by omega);have m5:(A.cs.length≤zat)=True:=zcJ (by omega);have m6:(A.cs.length*104≤zat)=True:=zcJ (by omega);have hlt:(A.cs.length+1≤A.cs.length)=False:=leF (by omega);rcases hC with rfl|⟨Y,ro,rfl,gY,hYne,hYB,hYc⟩
 ·by_cases hcs:A.cs=[]
  ·simp -implicitDefEqProofs [rW,h5,h8,h9,gP,gN,gX,zqv,a16P,b16P,a16N,b16N,a16X,b16X,a18P,b18P,a18N,b18N,a18X,b18X,a20P,b20P,a20N,b20N,a20X,b20X,a21P,b21P,a21N,b21N,a21X,b21X,hj,hrj,hRj,zs7,hcs,m1,m2,h8r,cmD,tmD,hjr];refine⟨by omega,hK _ ?_ ?_ ?_ ?_ (s.c+1+1+1+1+1+1+1+1+1+1+1+1+1+1+1+1+1+1+1+1) ?_ ?_ ?_ ?_ fun z hz hzN=> ?_⟩
   ·simp -implicitDefEqProofs [rW,]
   ·simp -implicitDefEqProofs [rW,]
   ·simp -implicitDefEqProofs [rW,]
   ·simp -implicitDefEqProofs [rW,]
   ·omega
   ·simp -implicitDefEqProofs [rW,]
   ·simp -implicitDefEqProofs [rW,a16P,b16P,a16N,b16N,a16X,b16X,a18P,b18P,a18N,b18N,a18X,b18X,a20P,b20P,a20N,b20N,a20X,b20X,a21P,b21P,a21N,b21N,a21X,b21X,hcs,cmD,tmD]
   ·simp -implicitDefEqProofs [rW,a16P,b16P,a16N,b16N,a16X,b16X,a18P,b18P,a18N,b18N,a18X,b18X,a20P,b20P,a20N,b20N,a20X,b20X,a21P,b21P,a21N,b21N,a21X,b21X,hcs,cmD,tmD]
   ·have z16:¬(z=s.c+1+1+1+1+1+1+1+1+1+1+1+1+1+1+1+1):=by omega
    have z18:¬(z=s.c+1+1+1+1+1+1+1+1+1+1+1+1+1+1+1+1+1+1):=by omega
    have z20:¬(z=s.c+1+1+1+1+1+1+1+1+1+1+1+1+1+1+1+1+1+1+1+1):=by omega
    have z21:¬(z=s.c+1+1+1+1+1+1+1+1+1+1+1+1+1+1+1+1+1+1+1+1+1):=by omega
    simp -implicitDefEqProofs [rW,z16,z18,z20,z21,hzN]
  ·simp -implicitDefEqProofs [rW,h5,h8,h9,gP,gN,gX,zqv,a16P,b16P,a16N,b16N,a16X,b16X,a18P,b18P,a18N,b18N,a18X,b18X,a20P,b20P,a20N,b20N,a20X,b20X,a21P,b21P,a21N,b21N,a21X,b21X,hj,hrj,hRj,zs7,hcs,m1,m2,m3,m4,m5,m6,hlt,h8r,cmD,tmD,hjr];refine⟨by omega,hK _ ?_ ?_ ?_ ?_ (s.c+1+1+1+1+1+1+1+1+1+1+1+1+1+1+1+1+1+1+1+1+1) ?_ ?_ ?_ ?_ fun z hz hzN=> ?_⟩
   ·simp -implicitDefEqProofs [rW,]
   ·simp -implicitDefEqProofs [rW,]
   ·simp -implicitDefEqProofs [rW,]
   ·simp -implicitDefEqProofs [rW,]
   ·omega
   ·simp -implicitDefEqProofs [rW,]
   ·simp -implicitDefEqProofs [rW,a16P,b16P,a16N,b16N,a16X,b16X,a18P,b18P,a18N,b18N,a18X,b18X,a20P,b20P,a20N,b20N,a20X,b20X,a21P,b21P,a21N,b21N,a21X,b21X,cmD,tmD]
   ·simp -implicitDefEqProofs [rW,a16P,b16P,a16N,b16N,a16X,b16X,a18P,b18P,a18N,b18N,a18X,b18X,a20P,b20P,a20N,b20N,a20X,b20X,a21P,b21P,a21N,b21N,a21X,b21X,cmD,tmD]
   ·have z16:¬(z=s.c+1+1+1+1+1+1+1+1+1+1+1+1+1+1+1+1):=by omega
    have z18:¬(z=s.c+1+1+1+1+1+1+1+1+1+1+1+1+1+1+1+1+1+1):=by omega
    have z20:¬(z=s.c+1+1+1+1+1+1+1+1+1+1+1+1+1+1+1+1+1+1+1+1):=by omega
    have z21:¬(z=s.c+1+1+1+1+1+1+1+1+1+1+1+1+1+1+1+1+1+1+1+1+1):=by omega
    simp -implicitDefEqProofs [rW,z16,z18,z20,z21,hzN]
 ·have hmt:List.take A.cs.length (List.map cmD A.cs)=List.map cmD A.cs:=List.take_of_length_le (by simp);have hmn:¬(A.cs.map cmD=[]):=by simpa using hYne
  have a16Y:¬(s.c+1+1+1+1+1+1+1+1+1+1+1+1+1+1+1+1=Y):=by omega
  have b16Y:¬(Y=s.c+1+1+1+1+1+1+1+1+1+1+1+1+1+1+1+1):=by omega
  have a18Y:¬(s.c+1+1+1+1+1+1+1+1+1+1+1+1+1+1+1+1+1+1=Y):=by omega
  have b18Y:¬(Y=s.c+1+1+1+1+1+1+1+1+1+1+1+1+1+1+1+1+1+1):=by omega
  have a20Y:¬(s.c+1+1+1+1+1+1+1+1+1+1+1+1+1+1+1+1+1+1+1+1=Y):=by omega
  have b20Y:¬(Y=s.c+1+1+1+1+1+1+1+1+1+1+1+1+1+1+1+1+1+1+1+1):=by omega
  have a21Y:¬(s.c+1+1+1+1+1+1+1+1+1+1+1+1+1+1+1+1+1+1+1+1+1=Y):=by omega
  have b21Y:¬(Y=s.c+1+1+1+1+1+1+1+1+1+1+1+1+1+1+1+1+1+1+1+1+1):=by omega
  simp -implicitDefEqProofs [rW,h5,h8,h9,gP,gN,gX,zqv,a16P,b16P,a16N,b16N,a16X,b16X,a18P,b18P,a18N,b18N,a18X,b18X,a20P,b20P,a20N,b20N,a20X,b20X,a21P,b21P,a21N,b21N,a21X,b21X,a16Y,b16Y,a18Y,b18Y,a20Y,b20Y,a21Y,b21Y,hmn,hmt,hj,hrj,hRj,gY,hYne,m1,m2,m3,m4,m5,m6,hlt,h8r,cmD,tmD,hjr];refine⟨by omega,hK _ ?_ ?_ ?_ ?_ (s.c+1+1+1+1+1+1+1+1+1+1+1+1+1+1+1+1+1+1+1+1+1) ?_ ?_ ?_ ?_ fun z hz hzN=> ?_⟩
  ·simp -implicitDefEqProofs [rW,]
  ·simp -implicitDefEqProofs [rW,]
  ·simp -implicitDefEqProofs [rW,]
  ·simp -implicitDefEqProofs [rW,]
  ·omega
  ·simp -implicitDefEqProofs [rW,]
  ·simp -implicitDefEqProofs [rW,a16P,b16P,a16N,b16N,a16X,b16X,a18P,b18P,a18N,b18N,a18X,b18X,a20P,b20P,a20N,b20N,a20X,b20X,a21P,b21P,a21N,b21N,a21X,b21X,a16Y,b16Y,a18Y,b18Y,a20Y,b20Y,a21Y,b21Y,cmD,tmD]
  ·simp -implicitDefEqProofs [rW,a16P,b16P,a16N,b16N,a16X,b16X,a18P,b18P,a18N,b18N,a18X,b18X,a20P,b20P,a20N,b20N,a20X,b20X,a21P,b21P,a21N,b21N,a21X,b21X,a16Y,b16Y,a18Y,b18Y,a20Y,b20Y,a21Y,b21Y,cmD,tmD]
  ·have z16:¬(z=s.c+1+1+1+1+1+1+1+1+1+1+1+1+1+1+1+1):=by omega
   have z18:¬(z=s.c+1+1+1+1+1+1+1+1+1+1+1+1+1+1+1+1+1+1):=by omega
   have z20:¬(z=s.c+1+1+1+1+1+1+1+1+1+1+1+1+1+1+1+1+1+1+1+1):=by omega
   have z21:¬(z=s.c+1+1+1+1+1+1+1+1+1+1+1+1+1+1+1+1+1+1+1+1+1):=by omega
   simp -implicitDefEqProofs [rW,z16,z18,z20,z21,hzN]
def t6:C:=(oZ [oM 73 6,oF 74 1 5,oK 75 1 74,oR 76 (.len (.t 75)),oR 77 (.bin .rem (.t 73) (.t 76)),oM 9 77]
 (oD [oF 78 1 5,oK 79 1 78,oM 80 9,oI 81 2 79 80,oL 82 2 81,oR 83 (.callp 25 [(.t 82)]),oR 84 (.len (.t 83)),oR 85 (.bin .gtr (.t 84) (.k (.i .i64 1))),oM 86 85,oH 87 86 (.fa 5 (.t 8)),oH 88 86 (.fa 0 (.t 87)),oH 89 86 (.ld false 1 (.t 88)),oH 90 86 (.bin .neq (.t 89) (.k (.s [121]))),oR 91 (.pick (.t 86) (.k (.b true)) (.t 90))] 91 (.dreg u6) .skip))
def w6:C:=(.seq (oD [oM 31 6,oM 32 1,oR 33 (.bin .shr (.t 32) (.k (.i .u64 6))),oR 34 (.bin .and (.t 33) (.k (.i .i64 3))),oR 35 (.bin .lss (.t 31) (.t 34))] 35 .skip (.exit 0))
 (.seq (.blk 1 (oZ [oM 38 1,oM 39 6,oR 40 (.bin .mul (.k (.i .i64 5)) (.t 39)),oR 41 (.bin .add (.k (.i .i64 8)) (.t 40)),oR 42 (.cvi .u64 (.t 41)),oR 43 (.bin .shr (.t 38) (.t 42)),oR 44 (.bin .and (.t 43) (.k (.i .i64 31))),oM 7 44]
 (oZ [oM 45 7,oR 46 (.bin .and (.t 45) (.k (.i .i64 3))),oR 47 (.bin .add (.k (.i .i64 1)) (.t 46)),oR 48 (.bld [.s [],.i .i64 0,.i .i64 0,.s []] [(0,1,(.k (.s [120])))]),oM 49 7,oR 50 (.bin .shr (.t 49) (.k (.i .u64 2))),oR 51 (.bin .and (.t 50) (.k (.i .i64 3))),oR 52 (.callp 8 [(.t 51)]),oR 53 (.bld [.s [],.i .i64 0,.i .i64 0,.s []] [(1,3,(.t 52))]),oR 54 (.bld [.i .i64 0,.s [],.i .i64 0,.i .i64 0,.s [],.s [],.i .i64 0,.i .i64 0,.s []] [(0,1,(.t 47)),(1,4,(.t 48)),(5,4,(.t 53))]),oR 8 (.new [.i .i64 0,.s [],.i .i64 0,.i .i64 0,.s [],.s [],.i .i64 0,.i .i64 0,.s []]),oS 9 8 54]
 (.seq (oD [oM 55 7,oR 56 (.bin .shr (.t 55) (.k (.i .u64 4))),oR 57 (.bin .eql (.t 56) (.k (.i .i64 1)))] 57 (.reg [oR 58 (.bsl 1 [.s []] 2 [(0,(.k (.s [120]))),(1,(.k (.s [121])))]),oM 59 7,oR 60 (.bin .shr (.t 59) (.k (.i .u64 2))),oR 61 (.bin .and (.t 60) (.k (.i .i64 1))),oI 62 1 58 61,oK 63 1 62,oR 64 (.bld [.s [],.i .i64 0,.i .i64 0,.s []] [(0,1,(.t 63))]),oF 65 5 8,oS 4 65 64]) .skip)
 (.seq (oD [oM 66 7,oR 67 (.bin .shr (.t 66) (.k (.i .u64 2))),oR 68 (.bin .and (.t 67) (.k (.i .i64 3))),oR 69 (.bin .eql (.t 68) (.k (.i .i64 3)))] 69 (.reg [oR 70 (.callp 8 [(.k (.i .i64 2))]),oR 71 (.bld [.s [],.i .i64 0,.i .i64 0,.s []] [(1,3,(.t 70))]),oF 72 1 8,oS 4 72 71]) .skip)
 t6)))))
 (.reg [oM 36 6,oR 37 (.bin .add (.t 36) (.k (.i .i64 1))),oM 6 37])))
set_option maxHeartbeats 4000000 in
theorem t6_wp{P N B lim X i m c:Nat}{ex:Bool}{dh:D}{hd:List Str}{n:Int}{l:List CQ}{x:Cm}{Q:Ex->St->Prop}{s:St}(hl:l≠[])(hi:i<10)(hm:m≤3)(hw:∀c∈l,CqW m c)(hx1:TmV x.l)(hx2:TmV x.r)(hll:l.length≤10)(hS:W6 P N B lim ex dh hd n i l c s)(h8:s.tm.get 8=some (.ptr X 9 0 0))(gX:s.h.get X=some (.arr 9 0 [cmD x]))(hX:c≤X)(hXc:X<s.c)
  (hQ:∀s' l',l'.length=l.length->(∀c∈l',CqW (m+1) c)->W6 P N B lim ex dh hd n i l' s'.c s'->Q .nrm s'):wpC pr t6 s Q:=by
 obtain⟨⟨h1,h4,h5,h6,g0,gP⟩,hO,hP1,hPB,hPN,hN0,hON,⟨rows,gN,hrl,hle,hr2,hNB,hrow⟩,hcs,hBc⟩ :=hS;have hlp:0<l.length:=List.length_pos_iff.2 hl;have hrem:=zgu i l.length (by omega);have hj:i%l.length<l.length:=Nat.mod_lt _ hlp;generalize i%l.length=j at hrem hj;obtain⟨dC,hrj,hC⟩ :=hrow j hj;have hwA:=hw _ (List.getElem_mem hj);generalize hA:l[j]=A at hrj hC hwA;have hl0:¬((l.length:Int)=0):=by omega
 have hlen0:¬(l.length=0):=by omega
 have hjr:j<rows.length:=by omega
 have hgA:=hwA.g (by omega);have q1:=fun k=>zay (k:=k) (zCI A hgA.toCqSm)
 simp only[cqE]at q1;have h8r:hd8 rows=false:=zfw (es:=2) (by decide) hr2;have upd:∀s':St,s'.tm.get 1=s.tm.get 1->s'.tm.get 4=s.tm.get 4->s'.tm.get 5=s.tm.get 5->s'.tm.get 6=s.tm.get 6->s'.tm.get 8=s.tm.get 8->s'.tm.get 9=some (.f (.i .i64 j))->s'.c=s.c->HR B c s.h s'.h->WD pr u6 s' Q:=by
  intro s' e1 e4 e5 e6 e8 e9 ec hH;have hlow:=hH.1;refine u6_wd (B:=B) (A:=A) (dC:=dC) (rows:=rows) (x:=x) (N:=N) (P:=P) (X:=X) (j:=j) (len:=l.length) (lim:=lim) (ex:=ex) (dh:=dh) ⟨by rw[e5,h5],by rw[e8,h8],e9,by rw[hlow P (.inl hPB)];exact gP,by rw[hlow N (.inl hNB)];exact gN,by rw[hlow X (.inr hX)];exact gX⟩ hj hrj (by rw[ec];exact (hC.hr hH).up hcs fun _ _ _=>rfl) (by omega) (by omega) (by omega) hPN h8r (by have:=hwA.lc;omega) (by omega) hNB ?_;intro s2 k1 k4 k5 k6 Y hY1 hY2 hY3 hN2 hz;rw[ec]at hY1 hz;have z0:∀z,z<B->z≠N->s2.h.get z=s.h.get z:=fun z h1 h2=>by rw[hz z (by omega) h2,hlow z (.inl h1)]
  refine hQ s2 (l.set j (add1 A x)) (by simp) (fun c hc=> ?_) ⟨⟨by rw[k1,e1,h1],by rw[k4,e4,h4],by rw[k5,e5,h5],by rw[k6,e6,h6],by rw[z0 0 (by omega) (by omega)];exact g0,by rw[z0 P hPB hPN,List.length_set];exact gP⟩,?_,hP1,hPB,hPN,hN0,hON,⟨rows.set j [.f (zaK A),.sl Y 0 (A.cs.length+1) 9 (A.cs.length+1) false],hN2,by simpa using hrl,by simpa using hle,fun y hy=> ?_,hNB,fun k hk=> ?_⟩,Nat.le_refl _,by omega⟩
  ·rcases List.mem_or_eq_of_mem_set hc with hc|rfl
   ·exact (hw c hc).up (by omega)
   ·exact hwA.add hx1 hx2
  ·refine hO.up (fun y hy=> ?_) (Nat.le_refl _) (Nat.le_refl _);have:=hO.2.2.1 y hy
   by_cases e:y=N
   ·exact absurd e (fun e=>hON (by rw[<-e];exact hy))
   ·exact z0 y (by omega) e
  ·rcases List.mem_or_eq_of_mem_set hy with hy|rfl
   ·exact hr2 y hy
   ·rfl
  ·have hk':k<l.length:=by simpa using hk
   by_cases e:k=j
   ·subst e;refine⟨.sl Y 0 (A.cs.length+1) 9 (A.cs.length+1) false,?_,?_⟩
    ·rw[List.getElem?_set_self (by omega),List.getElem_set_self];rfl
    ·rw[List.getElem_set_self];exact .inr ⟨Y,0,by simp[add1],hY3,by simp[add1],by omega,hY2⟩
   ·obtain⟨d',hd1,hd2⟩ :=hrow k hk';refine⟨d',?_,?_⟩
    ·rw[List.getElem?_set_ne (fun h=>e h.symm),List.getElem_set_ne (fun h=>e h.symm)];exact hd1
    ·rw[List.getElem_set_ne (fun h=>e h.symm)];exact (hd2.hr hH).up (by omega) fun z h1 h2=>hz z (by omega) (by omega)
 have non:∀s':St,s'.tm.get 1=s.tm.get 1->s'.tm.get 4=s.tm.get 4->s'.tm.get 5=s.tm.get 5->s'.tm.get 6=s.tm.get 6->s'.c=s.c->HR B c s.h s'.h->Q .nrm s':=by
  intro s' e1 e4 e5 e6 ec hH;have hlow:=hH.1;refine hQ s' l rfl (fun c hc=>(hw c hc).up (by omega)) ⟨⟨by rw[e1,h1],by rw[e4,h4],by rw[e5,h5],by rw[e6,h6],by rw[hlow 0 (.inl (by omega))];exact g0,by rw[hlow P (.inl hPB)];exact gP⟩,hO.up (fun y hy=>hlow y (.inl (by have:=hO.2.2.1 y hy;omega))) (Nat.le_refl _) (Nat.le_refl _),hP1,hPB,hPN,hN0,hON,⟨rows,by rw[hlow N (.inl hNB)];exact gN,hrl,hle,hr2,hNB,fun k hk=> ?_⟩,Nat.le_refl _,by omega⟩;obtain⟨d',hd1,hd2⟩ :=hrow k hk;exact⟨d',hd1,(hd2.hr hH).up (by omega) fun _ _ _=>rfl⟩
 unfold t6;simp only[rU];rcases hC with rfl|⟨Y,ro,rfl,gY,hYne,hYB,hYc⟩
 ·skip
  by_cases b1:(1:Int)< (vrs A).length
  ·simp -implicitDefEqProofs [rW,h1,h4,h5,h6,h8,g0,gP,hrem,hl0,hlen0,hj,gN,hrj,gX,q1,za7,za4,zaS,zbX,cmD,tmD,b1];refine upd _ ?_ ?_ ?_ ?_ ?_ ?_ ?_ ?_
   ·simp -implicitDefEqProofs [rW,]
   ·simp -implicitDefEqProofs [rW,]
   ·simp -implicitDefEqProofs [rW,]
   ·simp -implicitDefEqProofs [rW,]
   ·simp -implicitDefEqProofs [rW,]
   ·simp -implicitDefEqProofs [rW,]
   ·simp -implicitDefEqProofs [rW,]
   ·simp -implicitDefEqProofs [rW,];exact HR.self
  ·by_cases b2:tv x.r=[121]
   ·simp -implicitDefEqProofs [rW,h1,h4,h5,h6,h8,g0,gP,hrem,hl0,hlen0,hj,gN,hrj,gX,q1,za7,za4,zaS,zbX,cmD,tmD,b1,b2];refine non _ ?_ ?_ ?_ ?_ ?_ ?_
    ·simp -implicitDefEqProofs [rW,]
    ·simp -implicitDefEqProofs [rW,]
    ·simp -implicitDefEqProofs [rW,]
    ·simp -implicitDefEqProofs [rW,]
    ·simp -implicitDefEqProofs [rW,]
    ·simp -implicitDefEqProofs [rW,];exact HR.self
   ·simp -implicitDefEqProofs [rW,h1,h4,h5,h6,h8,g0,gP,hrem,hl0,hlen0,hj,gN,hrj,gX,q1,za7,za4,zaS,zbX,cmD,tmD,b1,b2];refine upd _ ?_ ?_ ?_ ?_ ?_ ?_ ?_ ?_
    ·simp -implicitDefEqProofs [rW,]
    ·simp -implicitDefEqProofs [rW,]
    ·simp -implicitDefEqProofs [rW,]
    ·simp -implicitDefEqProofs [rW,]
    ·simp -implicitDefEqProofs [rW,]
    ·simp -implicitDefEqProofs [rW,]
    ·simp -implicitDefEqProofs [rW,]
    ·simp -implicitDefEqProofs [rW,];exact HR.self
 ·have hz:frz s.h.get 11 (.sl Y 0 A.cs.length 9 A.cs.length false)=some (zaN A,[Y]):=by
   have e:=zgW s.h.get 9 (A.cs.map cmF);have e2:((A.cs.map cmD).drop 0).take A.cs.length=(A.cs.map cmF).map fun a=>a.map D.f:=by
    rw[List.drop_zero,List.take_of_length_le (by simp),List.map_map];exact List.map_congr_left fun k _=>(zkY k).symm
   rw[zdf,gY,zaT,zcH,if_pos ⟨rfl,by simp⟩,e2,e,zaT,zcz (by simpa using hYne)];unfold zaN csF;rw[if_neg (fun h=>hYne h.2)]
  by_cases hro:(A.cs.map cmD).length≤ro
  ·simp only[List.length_map]at hro
   by_cases b1:(1:Int)< (vrs A).length
   ·simp -implicitDefEqProofs [rW,h1,h4,h5,h6,h8,g0,gP,hrem,hl0,hlen0,hj,gN,hrj,gX,q1,za7,za4,zaS,zbX,cmD,tmD,hz,gY,hro,b1];refine upd _ ?_ ?_ ?_ ?_ ?_ ?_ ?_ ?_
    ·simp -implicitDefEqProofs [rW,]
    ·simp -implicitDefEqProofs [rW,]
    ·simp -implicitDefEqProofs [rW,]
    ·simp -implicitDefEqProofs [rW,]
    ·simp -implicitDefEqProofs [rW,]
    ·simp -implicitDefEqProofs [rW,]
    ·simp -implicitDefEqProofs [rW,]
    ·simp -implicitDefEqProofs [rW,];exact HR.self
   ·by_cases b2:tv x.r=[121]
    ·simp -implicitDefEqProofs [rW,h1,h4,h5,h6,h8,g0,gP,hrem,hl0,hlen0,hj,gN,hrj,gX,q1,za7,za4,zaS,zbX,cmD,tmD,hz,gY,hro,b1,b2];refine non _ ?_ ?_ ?_ ?_ ?_ ?_
     ·simp -implicitDefEqProofs [rW,]
     ·simp -implicitDefEqProofs [rW,]
     ·simp -implicitDefEqProofs [rW,]
     ·simp -implicitDefEqProofs [rW,]
     ·simp -implicitDefEqProofs [rW,]
     ·simp -implicitDefEqProofs [rW,];exact HR.self
    ·simp -implicitDefEqProofs [rW,h1,h4,h5,h6,h8,g0,gP,hrem,hl0,hlen0,hj,gN,hrj,gX,q1,za7,za4,zaS,zbX,cmD,tmD,hz,gY,hro,b1,b2];refine upd _ ?_ ?_ ?_ ?_ ?_ ?_ ?_ ?_
     ·simp -implicitDefEqProofs [rW,]
     ·simp -implicitDefEqProofs [rW,]
     ·simp -implicitDefEqProofs [rW,]
     ·simp -implicitDefEqProofs [rW,]
     ·simp -implicitDefEqProofs [rW,]
     ·simp -implicitDefEqProofs [rW,]
     ·simp -implicitDefEqProofs [rW,]
     ·simp -implicitDefEqProofs [rW,];exact HR.self
  ·have hHR:HR B c s.h (s.h.set Y (.arr 9 A.cs.length (A.cs.map cmD))):=by
    refine⟨fun z hz=>by rw[Vse.T.zad,if_neg (by omega)],fun z es ro els hg=> ?_⟩
    by_cases e:z=Y
    ·subst e;rw[gY]at hg;cases hg;exact⟨_,by rw[Vse.T.zad,if_pos rfl]⟩
    ·exact⟨ro,by rw[Vse.T.zad,if_neg e];exact hg⟩
   simp only[List.length_map]at hro;have yX:¬(X=Y):=by omega
   have yc:Y<s.c:=by omega
   have n0:¬(0=Y):=by omega
   have nP:¬(P=Y):=by omega
   have nN:¬(N=Y):=by omega
   by_cases b1:(1:Int)< (vrs A).length
   ·simp -implicitDefEqProofs [rW,h1,h4,h5,h6,h8,g0,gP,hrem,hl0,hlen0,hj,gN,hrj,gX,q1,za7,za4,zaS,zbX,cmD,tmD,hz,gY,hro,yX,yc,n0,nP,nN,b1];refine upd _ ?_ ?_ ?_ ?_ ?_ ?_ ?_ ?_
    ·simp -implicitDefEqProofs [rW,]
    ·simp -implicitDefEqProofs [rW,]
    ·simp -implicitDefEqProofs [rW,]
    ·simp -implicitDefEqProofs [rW,]
    ·simp -implicitDefEqProofs [rW,]
    ·simp -implicitDefEqProofs [rW,]
    ·simp -implicitDefEqProofs [rW,]
    ·simp -implicitDefEqProofs [rW,];exact hHR
   ·by_cases b2:tv x.r=[121]
    ·simp -implicitDefEqProofs [rW,h1,h4,h5,h6,h8,g0,gP,hrem,hl0,hlen0,hj,gN,hrj,gX,q1,za7,za4,zaS,zbX,cmD,tmD,hz,gY,hro,yX,yc,n0,nP,nN,b1,b2];refine non _ ?_ ?_ ?_ ?_ ?_ ?_
     ·simp -implicitDefEqProofs [rW,]
     ·simp -implicitDefEqProofs [rW,]
     ·simp -implicitDefEqProofs [rW,]
     ·simp -implicitDefEqProofs [rW,]
     ·simp -implicitDefEqProofs [rW,]
     ·simp -implicitDefEqProofs [rW,];exact hHR
    ·simp -implicitDefEqProofs [rW,h1,h4,h5,h6,h8,g0,gP,hrem,hl0,hlen0,hj,gN,hrj,gX,q1,za7,za4,zaS,zbX,cmD,tmD,hz,gY,hro,yX,yc,n0,nP,nN,b1,b2];refine upd _ ?_ ?_ ?_ ?_ ?_ ?_ ?_ ?_
     ·simp -implicitDefEqProofs [rW,]
     ·simp -implicitDefEqProofs [rW,]
     ·simp -implicitDefEqProofs [rW,]
     ·simp -implicitDefEqProofs [rW,]
     ·simp -implicitDefEqProofs [rW,]
     ·simp -implicitDefEqProofs [rW,]
     ·simp -implicitDefEqProofs [rW,]
     ·simp -implicitDefEqProofs [rW,];exact hHR
theorem shf(n:Int){i:Nat}(hi:i<3):∃(a b e z:Int),zbh .mul (.i .i64 5) (.i .i64 i)=some (.i .i64 a)/\IntKind.i64.wrap (8+a)=b/\IntKind.u64.wrap b=e/\zbh .shr (.i .i64 n) (.i .u64 e)=some (.i .i64 z):=by
 obtain rfl|rfl|rfl:i=0\/i=1\/i=2:=by omega
 all_goals exact⟨_,_,_,_,rfl,rfl,rfl,rfl⟩
theorem WR.low{h h':T Ob}{N B c c' lim:Nat}{l:List CQ}(H:WR h N B c lim l)(hBc:B≤c)(hc:c≤c')(hh:∀z,z<c->h'.get z=h.get z):WR h' N B c' lim l:=by
 obtain⟨rows,h1,h2,h3,h4,h5,h6⟩ :=H;refine⟨rows,by rw[hh N (by omega)];exact h1,h2,h3,h4,h5,fun i hi=> ?_⟩;obtain⟨d,h7,h8⟩ :=h6 i hi;exact⟨d,h7,h8.up hc fun x _ h=>hh x h⟩
theorem W6.nxt{P N B lim i:Nat}{ex:Bool}{dh:D}{hd:List Str}{n:Int}{l:List CQ}{s t:St}(H:W6 P N B lim ex dh hd n i l s.c s)(e1:t.tm.get 1=s.tm.get 1)(e4:t.tm.get 4=s.tm.get 4)(e5:t.tm.get 5=s.tm.get 5)(e6:t.tm.get 6=some (.f (.i .i64 ((i+1:Nat):Int))))(eh:t.h=s.h)(ec:t.c=s.c):W6 P N B lim ex dh hd n (i+1) l t.c t:=by
 obtain⟨⟨h1,h4,h5,h6,g0,gP⟩,hO,hP1,hPB,hPN,hN0,hON,hW,hcc,hBc⟩ :=H;refine⟨⟨by rw[e1,h1],by rw[e4,h4],by rw[e5,h5],e6,by rw[eh];exact g0,by rw[eh];exact gP⟩,by rw[eh];exact hO,hP1,hPB,hPN,hN0,hON,by rw[eh,ec];exact hW,Nat.le_refl _,by rw[ec];exact hBc⟩
theorem W6.sam{P N B lim i:Nat}{ex:Bool}{dh:D}{hd:List Str}{n:Int}{l:List CQ}{s t:St}(H:W6 P N B lim ex dh hd n i l s.c s)(e1:t.tm.get 1=s.tm.get 1)(e4:t.tm.get 4=s.tm.get 4)(e5:t.tm.get 5=s.tm.get 5)(e6:t.tm.get 6=s.tm.get 6)(eh:t.h=s.h)(ec:t.c=s.c):W6 P N B lim ex dh hd n i l t.c t:=by
 obtain⟨⟨h1,h4,h5,h6,g0,gP⟩,hO,hP1,hPB,hPN,hN0,hON,hW,hcc,hBc⟩ :=H;refine⟨⟨by rw[e1,h1],by rw[e4,h4],by rw[e5,h5],by rw[e6,h6],by rw[eh];exact g0,by rw[eh];exact gP⟩,by rw[eh];exact hO,hP1,hPB,hPN,hN0,hON,by rw[eh,ec];exact hW,Nat.le_refl _,by rw[ec];exact hBc⟩
structure TW(s:St)(Q:Ex->St->Prop):Prop where
 out:wpC pr t6 s Q
theorem zfZ{s:St}{Q:Ex->St->Prop}:wpC pr t6 s Q↔TW s Q:=⟨fun h=>⟨h⟩,fun h=>h.out⟩
set_option maxHeartbeats 4000000 in
theorem lp6{P N B lim r:Nat}{ex:Bool}{dh:D}{hd:List Str}{n z0:Int}{l0:List CQ}{Q:Ex->St->Prop}{s:St}(hz0:zbh .shr (.i .i64 n) (.i .u64 6)=some (.i .i64 z0))(hr:r≤3)(hr0:zbh .and (.i .i64 z0) (.i .i64 3)=some (.i .i64 r))(hl0:l0≠[])(hll:l0.length≤10)(hw0:∀c∈l0,CqW 1 c)(hS:W6 P N B lim ex dh hd n 0 l0 s.c s)
  (hQ:∀s' l' i,l'.length=l0.length->(∀c∈l',CqW 4 c)->W6 P N B lim ex dh hd n i l' s'.c s'->Q (.exit 0) s'):WL pr w6 s Q:=by
 refine zk8 (fun k s=>∃(i:Nat) (l:List CQ),(k=r - i/\i≤r/\l.length=l0.length/\∀c∈l,CqW (i+1) c)/\W6 P N B lim ex dh hd n i l s.c s) (fun e s=>e= .exit 0/\∃l i,l.length=l0.length/\(∀c∈l,CqW 4 c)/\W6 P N B lim ex dh hd n i l s.c s) ?_ r _ ⟨0,l0,⟨rfl,by omega,rfl,hw0⟩,hS⟩ (by rintro e s ⟨rfl,l,i,h1,h2,h3⟩;exact hQ s l i h1 h2 h3);clear hS hQ hw0 s;rintro k s ⟨i,l,⟨rfl,hi,hlen,hw⟩,hS0⟩;have hS:=hS0;obtain⟨⟨h1,h4,h5,h6,g0,gP⟩,hO,hP1,hPB,hPN,hN0,hON,hW,hcc,hBc⟩ :=hS0;have hlne:l≠[]:=fun e=>by
  rw[e]at hlen;exact hl0 (List.length_eq_zero_iff.1 hlen.symm)
 unfold w6;simp only[rU]
 by_cases hlt:i<r
 ·obtain⟨a,b,e,z,hmul,hadd,hcv,hshr⟩ :=shf n (i:=i) (by omega);obtain⟨k,hk31,hk⟩ :=zeE z 31 (by omega);obtain⟨k1,hk1,hka⟩ :=zeE k 3 (by omega);obtain⟨z2,hz2⟩ :∃z2:Int,zbh .shr (.i .i64 k) (.i .u64 2)=some (.i .i64 z2):=⟨_,rfl⟩
  obtain⟨k2,hk2,hkb⟩ :=zeE z2 3 (by omega);obtain⟨k3,hk3,hkc⟩ :=zeE z2 1 (by omega);obtain⟨z4,hz4⟩ :∃z4:Int,zbh .shr (.i .i64 k) (.i .u64 4)=some (.i .i64 z4):=⟨_,rfl⟩
  have hk':zbh .and (.i .i64 z) (.i .i64 31)=some (.i .i64 k):=hk;have hka':zbh .and (.i .i64 k) (.i .i64 3)=some (.i .i64 k1):=hka;have hkb':zbh .and (.i .i64 z2) (.i .i64 3)=some (.i .i64 k2):=hkb;have hkc':zbh .and (.i .i64 z2) (.i .i64 1)=some (.i .i64 k3):=hkc;have hw1:IntKind.i64.wrap (1+(k1:Int))=1+(k1:Int):=wrap_i64 _ (by omega) (by omega);have q8:=fun f=>zay (k:=f) (zAs (k2:Int))
  have q8b:=fun f=>zay (k:=f) (zAs 2)
  simp only[vF]at q8 q8b;have hwi:=zaC i (by omega);have hl2:s.c<s.c+1+1:=by omega
  have q8c:=fun f=>zay (k:=f) (zAs 3)
  simp only[vF]at q8c;have hn0:¬(0=s.c):=by omega
  have hnP:¬(P=s.c):=by omega
  have fin:∀(x:Cm) (s':St) (Q':Ex->St->Prop),TmV x.l->TmV x.r->s'.tm.get 1=s.tm.get 1->s'.tm.get 4=s.tm.get 4->s'.tm.get 5=s.tm.get 5->s'.tm.get 6=s.tm.get 6->s'.tm.get 8=some (.ptr s.c 9 0 0)->s'.h.get s.c=some (.arr 9 0 [cmD x])->s.c<s'.c->(∀z,z<s.c->s'.h.get z=s.h.get z)->(∀s' l',l'.length=l.length->(∀c∈l',CqW (i+1+1) c)->W6 P N B lim ex dh hd n i l' s'.c s'->Q' .nrm s')->TW s' Q':=by
   intro x s' Q' hx1 hx2 e1 e4 e5 e6 e8 eX ec hz hQ;refine⟨t6_wp (c:=s.c) hlne (by omega) (by omega) hw hx1 hx2 (by omega) ⟨⟨by rw[e1,h1],by rw[e4,h4],by rw[e5,h5],by rw[e6,h6],by rw[hz 0 (by omega)];exact g0,by rw[hz P (by omega)];exact gP⟩,hO.up (fun y hy=>hz y (by have:=hO.2.2.1 y hy;omega)) (Nat.le_refl _) (Nat.le_refl _),hP1,hPB,hPN,hN0,hON,hW.low hBc (Nat.le_refl _) hz,by omega,hBc⟩ e8 eX (Nat.le_refl _) ec hQ⟩
  obtain rfl|rfl:k3=0\/k3=1:=by omega
  ·skip
   by_cases c4:z4=1
   ·by_cases c2:(k2:Int)=3
    ·simp -implicitDefEqProofs [rW,h1,h4,h5,h6,g0,gP,hz0,hr0,hlt,hmul,hadd,hcv,hshr,hk',hka',hz2,hkb',hkc',hz4,hw1,q8,q8b,q8c,c4,c2,hl2,zfZ];refine fin ⟨1+k1,.cst 2,.var [120]⟩ _ _ (by simp[TmV]) (by simp[TmV]) ?_ ?_ ?_ ?_ ?_ ?_ ?_ (fun z hz=> ?_) fun s' l' a1 a2 a3=> ?_
     ·simp -implicitDefEqProofs [rW,]
     ·simp -implicitDefEqProofs [rW,]
     ·simp -implicitDefEqProofs [rW,]
     ·simp -implicitDefEqProofs [rW,]
     ·simp -implicitDefEqProofs [rW,]
     ·simp -implicitDefEqProofs [rW,cmD,tmD,zdQ,zdL,zdN,zcu,zcs,zct]
     ·simp -implicitDefEqProofs [rW,]<;>omega
     ·have nz:¬(z=s.c):=by omega
      have nz1:¬(z=s.c+1):=by omega
      simp -implicitDefEqProofs [rW,nz,nz1]
     ·have b:=a3;obtain⟨⟨y1,y4,y5,y6,-,-⟩,-⟩ :=a3;simp -implicitDefEqProofs [rW,y6,hwi];rw[zdK];refine⟨r - (i+1),by omega,i+1,l',⟨rfl,by omega,by rw[a1,hlen],a2⟩,b.nxt ?_ ?_ ?_ ?_ ?_ ?_⟩
      ·simp -implicitDefEqProofs [rW,]
      ·simp -implicitDefEqProofs [rW,]
      ·simp -implicitDefEqProofs [rW,]
      ·simp -implicitDefEqProofs [rW,]
      ·simp -implicitDefEqProofs [rW,]
      ·simp -implicitDefEqProofs [rW,]
    ·simp -implicitDefEqProofs [rW,h1,h4,h5,h6,g0,gP,hz0,hr0,hlt,hmul,hadd,hcv,hshr,hk',hka',hz2,hkb',hkc',hz4,hw1,q8,q8b,q8c,c4,c2,hl2,zfZ];refine fin ⟨1+k1,.var [120],.var [120]⟩ _ _ (by simp[TmV]) (by simp[TmV]) ?_ ?_ ?_ ?_ ?_ ?_ ?_ (fun z hz=> ?_) fun s' l' a1 a2 a3=> ?_
     ·simp -implicitDefEqProofs [rW,]
     ·simp -implicitDefEqProofs [rW,]
     ·simp -implicitDefEqProofs [rW,]
     ·simp -implicitDefEqProofs [rW,]
     ·simp -implicitDefEqProofs [rW,]
     ·simp -implicitDefEqProofs [rW,cmD,tmD,zdQ,zdL,zdN,zcu,zcs,zct]
     ·simp -implicitDefEqProofs [rW,]<;>omega
     ·have nz:¬(z=s.c):=by omega
      have nz1:¬(z=s.c+1):=by omega
      simp -implicitDefEqProofs [rW,nz,nz1]
     ·have b:=a3;obtain⟨⟨y1,y4,y5,y6,-,-⟩,-⟩ :=a3;simp -implicitDefEqProofs [rW,y6,hwi];rw[zdK];refine⟨r - (i+1),by omega,i+1,l',⟨rfl,by omega,by rw[a1,hlen],a2⟩,b.nxt ?_ ?_ ?_ ?_ ?_ ?_⟩
      ·simp -implicitDefEqProofs [rW,]
      ·simp -implicitDefEqProofs [rW,]
      ·simp -implicitDefEqProofs [rW,]
      ·simp -implicitDefEqProofs [rW,]
      ·simp -implicitDefEqProofs [rW,]
      ·simp -implicitDefEqProofs [rW,]
   ·by_cases c2:(k2:Int)=3
    ·simp -implicitDefEqProofs [rW,h1,h4,h5,h6,g0,gP,hz0,hr0,hlt,hmul,hadd,hcv,hshr,hk',hka',hz2,hkb',hkc',hz4,hw1,q8,q8b,q8c,c4,c2,hl2,zfZ];refine fin ⟨1+k1,.cst 2,.cst 3⟩ _ _ (by simp[TmV]) (by simp[TmV]) ?_ ?_ ?_ ?_ ?_ ?_ ?_ (fun z hz=> ?_) fun s' l' a1 a2 a3=> ?_
     ·simp -implicitDefEqProofs [rW,]
     ·simp -implicitDefEqProofs [rW,]
     ·simp -implicitDefEqProofs [rW,]
     ·simp -implicitDefEqProofs [rW,]
     ·simp -implicitDefEqProofs [rW,]
     ·simp -implicitDefEqProofs [rW,cmD,tmD,zdQ,zdL,zdN,zcu,zcs,zct]
     ·simp -implicitDefEqProofs [rW,]<;>omega
     ·have nz:¬(z=s.c):=by omega
      have nz1:¬(z=s.c+1):=by omega
      simp -implicitDefEqProofs [rW,nz,nz1]
     ·have b:=a3;obtain⟨⟨y1,y4,y5,y6,-,-⟩,-⟩ :=a3;simp -implicitDefEqProofs [rW,y6,hwi];rw[zdK];refine⟨r - (i+1),by omega,i+1,l',⟨rfl,by omega,by rw[a1,hlen],a2⟩,b.nxt ?_ ?_ ?_ ?_ ?_ ?_⟩
      ·simp -implicitDefEqProofs [rW,]
      ·simp -implicitDefEqProofs [rW,]
      ·simp -implicitDefEqProofs [rW,]
      ·simp -implicitDefEqProofs [rW,]
      ·simp -implicitDefEqProofs [rW,]
      ·simp -implicitDefEqProofs [rW,]
    ·simp -implicitDefEqProofs [rW,h1,h4,h5,h6,g0,gP,hz0,hr0,hlt,hmul,hadd,hcv,hshr,hk',hka',hz2,hkb',hkc',hz4,hw1,q8,q8b,q8c,c4,c2,hl2,zfZ];refine fin ⟨1+k1,.var [120],.cst k2⟩ _ _ (by simp[TmV]) (by simp[TmV]) ?_ ?_ ?_ ?_ ?_ ?_ ?_ (fun z hz=> ?_) fun s' l' a1 a2 a3=> ?_
     ·simp -implicitDefEqProofs [rW,]
     ·simp -implicitDefEqProofs [rW,]
     ·simp -implicitDefEqProofs [rW,]
     ·simp -implicitDefEqProofs [rW,]
     ·simp -implicitDefEqProofs [rW,]
     ·simp -implicitDefEqProofs [rW,cmD,tmD,zdQ,zdL,zdN,zcu,zcs,zct]
     ·simp -implicitDefEqProofs [rW,]<;>omega
     ·have nz:¬(z=s.c):=by omega
      have nz1:¬(z=s.c+1):=by omega
      simp -implicitDefEqProofs [rW,nz,nz1]
     ·have b:=a3;obtain⟨⟨y1,y4,y5,y6,-,-⟩,-⟩ :=a3;simp -implicitDefEqProofs [rW,y6,hwi];rw[zdK];refine⟨r - (i+1),by omega,i+1,l',⟨rfl,by omega,by rw[a1,hlen],a2⟩,b.nxt ?_ ?_ ?_ ?_ ?_ ?_⟩
      ·simp -implicitDefEqProofs [rW,]
      ·simp -implicitDefEqProofs [rW,]
      ·simp -implicitDefEqProofs [rW,]
      ·simp -implicitDefEqProofs [rW,]
      ·simp -implicitDefEqProofs [rW,]
      ·simp -implicitDefEqProofs [rW,]
  ·skip
   by_cases c4:z4=1
   ·by_cases c2:(k2:Int)=3
    ·simp -implicitDefEqProofs [rW,h1,h4,h5,h6,g0,gP,hz0,hr0,hlt,hmul,hadd,hcv,hshr,hk',hka',hz2,hkb',hkc',hz4,hw1,q8,q8b,q8c,c4,c2,hl2,zfZ];refine fin ⟨1+k1,.cst 2,.var [121]⟩ _ _ (by simp[TmV]) (by simp[TmV]) ?_ ?_ ?_ ?_ ?_ ?_ ?_ (fun z hz=> ?_) fun s' l' a1 a2 a3=> ?_
     ·simp -implicitDefEqProofs [rW,]
     ·simp -implicitDefEqProofs [rW,]
     ·simp -implicitDefEqProofs [rW,]
     ·simp -implicitDefEqProofs [rW,]
     ·simp -implicitDefEqProofs [rW,]
     ·simp -implicitDefEqProofs [rW,cmD,tmD,zdQ,zdL,zdN,zcu,zcs,zct]
     ·simp -implicitDefEqProofs [rW,]<;>omega
     ·have nz:¬(z=s.c):=by omega
      have nz1:¬(z=s.c+1):=by omega
      simp -implicitDefEqProofs [rW,nz,nz1]
     ·have b:=a3;obtain⟨⟨y1,y4,y5,y6,-,-⟩,-⟩ :=a3;simp -implicitDefEqProofs [rW,y6,hwi];rw[zdK];refine⟨r - (i+1),by omega,i+1,l',⟨rfl,by omega,by rw[a1,hlen],a2⟩,b.nxt ?_ ?_ ?_ ?_ ?_ ?_⟩
      ·simp -implicitDefEqProofs [rW,]
      ·simp -implicitDefEqProofs [rW,]
      ·simp -implicitDefEqProofs [rW,]
      ·simp -implicitDefEqProofs [rW,]
      ·simp -implicitDefEqProofs [rW,]
      ·simp -implicitDefEqProofs [rW,]
    ·simp -implicitDefEqProofs [rW,h1,h4,h5,h6,g0,gP,hz0,hr0,hlt,hmul,hadd,hcv,hshr,hk',hka',hz2,hkb',hkc',hz4,hw1,q8,q8b,q8c,c4,c2,hl2,zfZ];refine fin ⟨1+k1,.var [120],.var [121]⟩ _ _ (by simp[TmV]) (by simp[TmV]) ?_ ?_ ?_ ?_ ?_ ?_ ?_ (fun z hz=> ?_) fun s' l' a1 a2 a3=> ?_
     ·simp -implicitDefEqProofs [rW,]
     ·simp -implicitDefEqProofs [rW,]
     ·simp -implicitDefEqProofs [rW,]
     ·simp -implicitDefEqProofs [rW,]
     ·simp -implicitDefEqProofs [rW,]
     ·simp -implicitDefEqProofs [rW,cmD,tmD,zdQ,zdL,zdN,zcu,zcs,zct]
     ·simp -implicitDefEqProofs [rW,]<;>omega
     ·have nz:¬(z=s.c):=by omega
      have nz1:¬(z=s.c+1):=by omega
      simp -implicitDefEqProofs [rW,nz,nz1]
     ·have b:=a3;obtain⟨⟨y1,y4,y5,y6,-,-⟩,-⟩ :=a3;simp -implicitDefEqProofs [rW,y6,hwi];rw[zdK];refine⟨r - (i+1),by omega,i+1,l',⟨rfl,by omega,by rw[a1,hlen],a2⟩,b.nxt ?_ ?_ ?_ ?_ ?_ ?_⟩
      ·simp -implicitDefEqProofs [rW,]
      ·simp -implicitDefEqProofs [rW,]
      ·simp -implicitDefEqProofs [rW,]
      ·simp -implicitDefEqProofs [rW,]
      ·simp -implicitDefEqProofs [rW,]
      ·simp -implicitDefEqProofs [rW,]
   ·by_cases c2:(k2:Int)=3
    ·simp -implicitDefEqProofs [rW,h1,h4,h5,h6,g0,gP,hz0,hr0,hlt,hmul,hadd,hcv,hshr,hk',hka',hz2,hkb',hkc',hz4,hw1,q8,q8b,q8c,c4,c2,hl2,zfZ];refine fin ⟨1+k1,.cst 2,.cst 3⟩ _ _ (by simp[TmV]) (by simp[TmV]) ?_ ?_ ?_ ?_ ?_ ?_ ?_ (fun z hz=> ?_) fun s' l' a1 a2 a3=> ?_
     ·simp -implicitDefEqProofs [rW,]
     ·simp -implicitDefEqProofs [rW,]
     ·simp -implicitDefEqProofs [rW,]
     ·simp -implicitDefEqProofs [rW,]
     ·simp -implicitDefEqProofs [rW,]
     ·simp -implicitDefEqProofs [rW,cmD,tmD,zdQ,zdL,zdN,zcu,zcs,zct]
     ·simp -implicitDefEqProofs [rW,]<;>omega
     ·have nz:¬(z=s.c):=by omega
      have nz1:¬(z=s.c+1):=by omega
      simp -implicitDefEqProofs [rW,nz,nz1]
     ·have b:=a3;obtain⟨⟨y1,y4,y5,y6,-,-⟩,-⟩ :=a3;simp -implicitDefEqProofs [rW,y6,hwi];rw[zdK];refine⟨r - (i+1),by omega,i+1,l',⟨rfl,by omega,by rw[a1,hlen],a2⟩,b.nxt ?_ ?_ ?_ ?_ ?_ ?_⟩
      ·simp -implicitDefEqProofs [rW,]
      ·simp -implicitDefEqProofs [rW,]
      ·simp -implicitDefEqProofs [rW,]
      ·simp -implicitDefEqProofs [rW,]
      ·simp -implicitDefEqProofs [rW,]
      ·simp -implicitDefEqProofs [rW,]
    ·simp -implicitDefEqProofs [rW,h1,h4,h5,h6,g0,gP,hz0,hr0,hlt,hmul,hadd,hcv,hshr,hk',hka',hz2,hkb',hkc',hz4,hw1,q8,q8b,q8c,c4,c2,hl2,zfZ];refine fin ⟨1+k1,.var [120],.cst k2⟩ _ _ (by simp[TmV]) (by simp[TmV]) ?_ ?_ ?_ ?_ ?_ ?_ ?_ (fun z hz=> ?_) fun s' l' a1 a2 a3=> ?_
     ·simp -implicitDefEqProofs [rW,]
     ·simp -implicitDefEqProofs [rW,]
     ·simp -implicitDefEqProofs [rW,]
     ·simp -implicitDefEqProofs [rW,]
     ·simp -implicitDefEqProofs [rW,]
     ·simp -implicitDefEqProofs [rW,cmD,tmD,zdQ,zdL,zdN,zcu,zcs,zct]
     ·simp -implicitDefEqProofs [rW,]<;>omega
     ·have nz:¬(z=s.c):=by omega
      have nz1:¬(z=s.c+1):=by omega
      simp -implicitDefEqProofs [rW,nz,nz1]
     ·have b:=a3;obtain⟨⟨y1,y4,y5,y6,-,-⟩,-⟩ :=a3;simp -implicitDefEqProofs [rW,y6,hwi];rw[zdK];refine⟨r - (i+1),by omega,i+1,l',⟨rfl,by omega,by rw[a1,hlen],a2⟩,b.nxt ?_ ?_ ?_ ?_ ?_ ?_⟩
      ·simp -implicitDefEqProofs [rW,]
      ·simp -implicitDefEqProofs [rW,]
      ·simp -implicitDefEqProofs [rW,]
      ·simp -implicitDefEqProofs [rW,]
      ·simp -implicitDefEqProofs [rW,]
      ·simp -implicitDefEqProofs [rW,]
 ·simp -implicitDefEqProofs [rW,h1,h4,h5,h6,g0,gP,hz0,hr0,hlt];refine⟨l,hlen,fun c hc=>(hw c hc).up (by omega),i,hS.sam ?_ ?_ ?_ ?_ ?_ ?_⟩
  ·simp -implicitDefEqProofs [rW,]
  ·simp -implicitDefEqProofs [rW,]
  ·simp -implicitDefEqProofs [rW,]
  ·simp -implicitDefEqProofs [rW,]
  ·simp -implicitDefEqProofs [rW,]
  ·simp -implicitDefEqProofs [rW,]
end Go.Proofs.YtmnkdfjljkhneaaGreat
end
